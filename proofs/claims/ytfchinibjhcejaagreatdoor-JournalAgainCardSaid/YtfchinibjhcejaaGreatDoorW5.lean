/- Parts of the proof, joined: see the law's text. -/
import Derived.Test.YtfchinibjhcejaaGreatDoorW4
import Derived.Deep.DeepAppendWide
import Derived.Test.YtfchinibjhcejaaGreatDoorW2
import Derived.Test.YtfchinibjhcejaaGreatDoorW3
set_option linter.unusedVariables false
set_option linter.unusedSimpArgs false
namespace Go.Proofs.YtfchinibjhcejaaGreatDoor
open Go Go.Wk
theorem comE_rest {σ : Ds} {sp si sc sd : Int} {cs : List (Int × BitVec 64)} : (comE σ sp si sc sd cs).2.ws.length = σ.ws.length ∧ (comE σ sp si sc sd cs).2.steps ≤ σ.steps + 60 := by
  by_cases h0 : GoodSup sp si sc ∧ sd = 4 + si / 8 ∧ 8 * (σ.ws.length : Int) = 512 * sp
  · by_cases h1 : cs.length = 0 ∨ 8 < cs.length
    · rw [com_41 h0 h1]; exact ⟨rfl, Nat.le_add_right _ _⟩
    · by_cases h2 : PlK si cs cs.length
      · by_cases h3 : openUnE (page (wbytes (viewWs σ.ws))) = 0 ∧ openUnL (page (wbytes (viewWs σ.ws))) = []
        · rw [com_go h0 h1 h2 h3]
          obtain ⟨hg, hsd, hN⟩ := h0
          have hg2 := hg
          unfold GoodSup at hg2
          have hks := ks_lt (n := σ.ws.length) (pl_all h2) (by omega)
          obtain ⟨hok, _⟩ := acs_ok (σ := σ) (xs := cs.map Prod.snd) hks (by rw [ksOf_len]; omega) (by omega)
          have hle := comL_le (σ := σ) (xs := cs.map Prod.snd) (ks := ksOf cs) (by rw [ksOf_len]; omega)
          obtain ⟨g1, g2, _⟩ := actsE_rest _ σ hok
          exact ⟨g1, by omega⟩
        · rw [com_35 h0 h1 h2 h3]; exact ⟨rfl, Nat.le_add_right _ _⟩
      · rw [com_40 h0 h1 h2]; exact ⟨rfl, Nat.le_add_right _ _⟩
  · rw [com_30 h0]; exact ⟨rfl, Nat.le_add_right _ _⟩
theorem rcvE_rest {σ : Ds} : (rcvE σ).2.2.ws.length = σ.ws.length ∧ (rcvE σ).2.2.steps ≤ σ.steps + 60 := by
  unfold rcvE
  split
  · exact ⟨rfl, Nat.le_add_right _ _⟩
  · rename_i h
    have h0 : pndE (wbytes (viewWs σ.ws)) = 0 := Classical.byContradiction fun g => h (.inl g)
    obtain ⟨k, _, hg, hp, hall⟩ := pnd_good h0
    have hg2 := hg
    unfold GoodSup at hg2
    have hXl : (wbytes (viewWs σ.ws)).length = 8 * σ.ws.length := by rw [wbytes_length, viewWs, List.length_map]
    have hl8 := pndL_le (wbytes (viewWs σ.ws))
    have hks := ks_lt (n := σ.ws.length) hall (by omega)
    obtain ⟨_, hok⟩ := acs_ok (σ := σ) (xs := (pndL (wbytes (viewWs σ.ws))).map Prod.snd) hks (by rw [ksOf_len]; omega) (by omega)
    have hle := recL_le (xs := (pndL (wbytes (viewWs σ.ws))).map Prod.snd) (ks := ksOf (pndL (wbytes (viewWs σ.ws)))) (by rw [ksOf_len]; omega)
    obtain ⟨g1, g2, _⟩ := actsE_rest _ σ hok
    split
    · exact ⟨g1, by show (actsE σ _).2.steps ≤ _; omega⟩
    · exact ⟨g1, by show (actsE σ _).2.steps ≤ _; omega⟩
section
variable {σ : Ds} {n ad z : Int} {cs : List Int} {lB : List UInt8}
end
section
variable {P : Program} {Γ : Ctx} {E : Env} {H : List Res} {ops : Array Oper} {Q : Exit → Act → World → Prop} {rest : List Oper}
  {d : Nat} {ty : TypeId} {pos : String} {after : Array Edge} {x y z : Operand} {v u vy : Value} {g : Option (Nat × Bool)}
end
end Go.Proofs.YtfchinibjhcejaaGreatDoor
namespace Go.Proofs.YtfchinibjhcejaaGreatDoor
open Go Go.Wk
theorem changesJ_n (v : Value) (T : List (Int × BitVec 64)) (a0 i a2 a3 : Int) (w : World) (hv : RdP w v T) (hT : T.length ≤ 140737488355328) (hi : 0 < i ∧ i ≤ 1000) :
    NewRow Tryz.prog 21 [v, .agg #[.int .i64 a0, .int .i64 i, .int .i64 a2, .int .i64 a3]] 56 2 (chL i T).length (prC (chL i T)) w := by
 refine enter (feet []) [] Tryz.func21 rfl Tryz.ntmps21 rfl ⟨by simp, by simp, by simp, Mod.refl _ _⟩ ?_
 simp only [envOf]
 refine tR (At.box rfl rfl rfl (fun b1 => (tA rfl rfl (tE (tR (tA rfl rfl (At.nil (At.rowNilP 56 (At.thenN (At.seq (tR (tA rfl rfl (tE (At.block ?_))))))))))))))
 skip
 refine At.loop (σ := Nat × Value) (fun s => s.1 ≤ T.length) (fun s => [(0, v), (3, .pointer (some ⟨b1, 0, none⟩)), (5, s.2), (6, .int .i64 (s.1 : Int))]) (fun s => [rowR s.2 56 2 (chL0 i (T.take s.1)).length (prC (chL0 i (T.take s.1))), blk b1 31 ([.int .i64 a0, .int .i64 i, .int .i64 a2, .int .i64 a3])]) (fun s => T.length - s.1) (0, .slice none 0 0) (Nat.zero_le _) (Sub.cons rfl (Sub.cons rfl (Sub.cons rfl (Sub.cons rfl Sub.nil)))) (List.Perm.refl _) ?_
 intro s hs
 obtain ⟨k, vr⟩ := s
 dsimp only at hs ⊢
 have hA := chL0_ok hi.1 (T.take k)
 refine At.seq (tR (tM rfl rfl (tM rfl rfl (tV (Val.lenRd hv Tryz.underlying28 rfl) rfl (tV (Val.bin rfl rfl rfl) rfl (At.weaken [(0, _), (3, _), (5, _), (6, _), (14, _)] (Sub.cons rfl (Sub.cons rfl (Sub.cons rfl (Sub.cons rfl (Sub.cons rfl Sub.nil))))) ?_))))))
 refine At.boolMeet 5 19 (decide (k < T.length ∧ (chL0 i (T.take k)).length < 8)) ?_ ?_
 ·simp only [List.take_succ_cons, List.take_zero]
  refine tM rfl rfl ?_
  refine At.split (t := 15) rfl (fun h2 => ?_) (fun h2 => ?_)
  ·try simp only [hasB, isSizeB, sB] at h2
   refine At.yes rfl rfl (tM rfl rfl (At.yes rfl rfl (tV (Val.lenRow (i := 0) Tryz.underlying24 rfl rfl) rfl (At.yes rfl rfl (tV (Val.bin rfl rfl rfl) rfl (tV (Val.pickT rfl rfl) rfl (At.nil ?_)))))))
   exact At.boolEnd rfl (by apply Bool.eq_iff_iff.2; (simp only [decide_eq_true_eq, Bool.false_eq_true, false_iff, true_iff, gt_iff_lt, ge_iff_le]) <;> omega) (by repeat (first | exact Sub.nil | refine Sub.cons rfl ?_))
  ·try simp only [hasB, isSizeB, sB] at h2
   refine At.no rfl rfl rfl rfl (At.no rfl rfl rfl rfl (At.no rfl rfl rfl rfl (tV (Val.pickF rfl rfl) rfl (At.nil ?_))))
   exact At.boolEnd rfl (by apply Bool.eq_iff_iff.2; (simp only [decide_eq_true_eq, Bool.false_eq_true, false_iff, true_iff, gt_iff_lt, ge_iff_le]) <;> omega) (by repeat (first | exact Sub.nil | refine Sub.cons rfl ?_))
 ·simp only [List.drop_succ_cons, List.drop_zero]
  refine tE ?_
  refine At.cond rfl (fun h3 => ?_) (fun h3 => ?_)
  ·try simp only [hasB, isSizeB, sB] at h3
   obtain ⟨t, ht⟩ : ∃ t, T[k]? = some t := ⟨_, List.getElem?_eq_getElem (by omega)⟩
   refine At.skipC (At.thenN (At.seq (At.block (At.seq (At.quiet rfl (by decide +kernel) (qM rfl rfl (qM rfl rfl (QAt.idxP hv Tryz.underlying28 Tryz.sizeOf90 rfl rfl (by omega) (by omega) rfl rfl (fun bx ox q1 hq1 hc0 hc1 => ?_)))))))))
   rw [Int.toNat_natCast] at hq1
   obtain rfl : t = q1 := Option.some.inj (ht.symm.trans hq1)
   refine qV (Val.field ox rfl fo_90_0 rfl) rfl (qV (Val.loadOld Tryz.isAgg3 rfl hc0 (fun h => by simp [feet] at h)) rfl (qV (Val.field 1 rfl fo_31_1 rfl) rfl (qV (Val.load (i := 1) Tryz.isAgg3 rfl rfl rfl) rfl (qV (Val.mulI rfl rfl (by omega) (by omega)) rfl (QAt.callP (fun w hw => restJ_p t.1 (3 * i) w (by omega)) Tryz.call31 rfl rfl (qV (Val.assign rfl) rfl (QAt.fin (At.thenN (At.seq ?_)))))))))
   obtain ⟨z, hz⟩ : ∃ z, z = t.1 % (3 * i) := ⟨_, rfl⟩
   have hz0 := Int.emod_nonneg t.1 (show 3 * i ≠ 0 by omega)
   have hz1 := Int.emod_lt_of_pos t.1 (show 0 < 3 * i by omega)
   rw [← hz] at hz0 hz1
   rw [← hz]
   refine At.region (tM rfl rfl (tV (Val.quoI rfl rfl (by omega) (by omega) (by decide)) rfl (tV (Val.mulI rfl rfl (by omega) (by omega)) rfl (tV (Val.addI rfl rfl (by omega) (by omega)) rfl (tM rfl rfl (tV (Val.remI rfl rfl (by omega) (by omega)) rfl (tV (Val.mulI rfl rfl (by omega) (by omega)) rfl (tV (Val.addI rfl rfl (by omega) (by omega)) rfl (tA rfl rfl (At.nil ?_))))))))))
   rw [show 2048 + 64 * (z / 3) + 8 * (z % 3) = twA i t.1 from by unfold twA; rw [hz]]
   refine At.thenN (tR (tA rfl rfl (tE (At.seq (tR (tA rfl rfl (tE (At.block ?_))))))))
   skip
   refine At.loop (σ := Nat) (fun m => m ≤ (chL0 i (T.take k)).length) (fun m => [(0, v), (3, .pointer (some ⟨b1, 0, none⟩)), (5, vr), (6, .int .i64 (k : Int)), (8, .int .i64 (twA i t.1)), (9, .bool (hasAt ((chL0 i (T.take k)).take m) (twA i t.1))), (10, .int .i64 (m : Int))]) (fun m => [rowR vr 56 2 (((chL0 i (T.take k))).length) (prC ((chL0 i (T.take k)))), blk b1 31 ([.int .i64 a0, .int .i64 i, .int .i64 a2, .int .i64 a3])]) (fun m => (chL0 i (T.take k)).length - m) 0 (Nat.zero_le _) (Sub.cons rfl (Sub.cons rfl (Sub.cons rfl (Sub.cons rfl (Sub.cons rfl (Sub.cons (by rw [List.take_zero]; rfl) (Sub.cons rfl Sub.nil))))))) (List.Perm.refl _) ?_
   intro m hm
   refine At.seq (tR (tM rfl rfl (tM rfl rfl (tV (Val.lenRow (i := 0) Tryz.underlying24 rfl rfl) rfl (tV (Val.bin rfl rfl rfl) rfl (tE ?_))))))
   refine At.cond rfl (fun h4 => ?_) (fun h4 => ?_)
   ·try simp only [hasB, isSizeB, sB] at h4
    obtain ⟨c, hc⟩ : ∃ c, (chL0 i (T.take k))[m]? = some c := ⟨_, List.getElem?_eq_getElem (by omega)⟩
    refine At.skipC (At.thenN (At.seq (At.block (At.region (tM rfl rfl (tM rfl rfl ?_))))))
    refine At.split (t := 46) rfl (fun h5 => ?_) (fun h5 => ?_)
    ·try simp only [hasB, isSizeB, sB] at h5
     refine At.no rfl rfl rfl rfl (At.no rfl rfl rfl rfl (At.no rfl rfl rfl rfl (At.no rfl rfl rfl rfl (At.no rfl rfl rfl rfl (At.no rfl rfl rfl rfl (At.no rfl rfl rfl rfl (tV (Val.pickT rfl rfl) rfl (tA rfl rfl (At.nil (At.blkN (At.thenN (At.region (tM rfl rfl ?_)))))))))))))
     first | refine tV (Val.addI rfl rfl (by omega) (by omega)) rfl ?_ | refine tV (Val.bin rfl rfl rfl) rfl ?_
     refine tA rfl rfl (tE ?_)
     exact At.again (m + 1) (show m + 1 ≤ _ by omega) (by omega) (Sub.cons rfl (Sub.cons rfl (Sub.cons rfl (Sub.cons rfl (Sub.cons rfl (Sub.cons (congrArg (fun t => some (Value.bool t)) (by rw [has_snoc hc]; simp_all)) (Sub.cons (congrArg (fun z => some (Value.int IntKind.i64 z)) (by omega)) Sub.nil))))))) (List.Perm.refl _)
    ·try simp only [hasB, isSizeB, sB] at h5
     refine At.yes rfl rfl (tM rfl rfl (At.yes rfl rfl (tM rfl rfl (At.yes rfl rfl (tV (Val.indexRow (i := 0) (m * 2) (by omega) Tryz.underlying24 Tryz.sizeOf56 rfl rfl rfl (by omega) (by omega)) rfl (At.yes rfl rfl (tV (Val.field ((m * 2 + 0)) rfl fo_56_0 rfl) rfl (At.yes rfl rfl (tV (Val.loadRow (u := .int .i64 c.1) (i := 0) Tryz.isAgg3 rfl rfl (prC_at hc).1) rfl (At.yes rfl rfl (tM rfl rfl (At.yes rfl rfl (tV (Val.bin rfl rfl rfl) rfl (tV (Val.pickF rfl rfl) rfl (tA rfl rfl (At.nil (At.blkN (At.thenN (At.region (tM rfl rfl ?_))))))))))))))))))))
     first | refine tV (Val.addI rfl rfl (by omega) (by omega)) rfl ?_ | refine tV (Val.bin rfl rfl rfl) rfl ?_
     refine tA rfl rfl (tE ?_)
     exact At.again (m + 1) (show m + 1 ≤ _ by omega) (by omega) (Sub.cons rfl (Sub.cons rfl (Sub.cons rfl (Sub.cons rfl (Sub.cons rfl (Sub.cons (congrArg (fun t => some (Value.bool t)) (by rw [has_snoc hc]; simp_all)) (Sub.cons (congrArg (fun z => some (Value.int IntKind.i64 z)) (by omega)) Sub.nil))))))) (List.Perm.refl _)
   ·try simp only [hasB, isSizeB, sB] at h4
    obtain rfl : m = (chL0 i (T.take k)).length := by omega
    refine At.exitC (At.thenX (At.thenX (At.blkX (At.thenN (tR (tM rfl rfl (tV (Val.not rfl) rfl (tE ?_))))))))
    refine At.cond rfl (fun h6 => ?_) (fun h6 => ?_)
    ·try simp only [hasB, isSizeB, sB] at h6
     have hno := h6
     refine At.region (tM rfl rfl (tM rfl rfl (tM rfl rfl (tM rfl rfl (At.idxP hv Tryz.underlying28 Tryz.sizeOf90 rfl rfl (by omega) (by omega) rfl rfl (fun bx ox q1 hq1 hc0 hc1 => ?_))))))
     rw [Int.toNat_natCast] at hq1
     obtain rfl : t = q1 := Option.some.inj (ht.symm.trans hq1)
     refine tV (Val.field (ox + 1) rfl fo_90_1 rfl) rfl (tV (Val.loadOld Tryz.isAgg43 rfl hc1 (fun h => by simp [feet] at h)) rfl ?_)
     refine tV (Val.build (fun a ha => by simp only [List.map_toArray, List.map_cons, List.map_nil, ha.eval (x := (.tmp 58)) rfl, ha.eval (x := (.tmp 63)) rfl] <;> rfl) (bld_56_0_1 _ _ )) rfl (At.buildSl (fun a ha => by simp only [List.map_toArray, List.map_cons, List.map_nil, ha.eval (x := (.tmp 64)) rfl]; try rfl) (bs_24_1 _ _ ) rfl (fun b7 => (At.appendP1 (i := 1) (j := 0) (by_ := 16) Tryz.underlying24 info_56 rfl rfl rfl rfl rfl rfl rfl rfl (by omega) (by omega) rfl (fun v8 => ?_))))
     simp only [sc0, scS]
     refine At.drop 0 ?_
     simp only [ec0, ecS]
     refine tA rfl rfl (At.nil (At.blkN (At.thenN (At.region (tM rfl rfl ?_)))))
     first | refine tV (Val.addI rfl rfl (by omega) (by omega)) rfl ?_ | refine tV (Val.bin rfl rfl rfl) rfl ?_
     refine tA rfl rfl (tE ?_)
     exact At.again (k + 1, v8) (show k + 1 ≤ _ by omega) (by dsimp only; omega) (Sub.cons rfl (Sub.cons rfl (Sub.cons rfl (Sub.cons (congrArg (fun z => some (Value.int IntKind.i64 z)) (by omega)) Sub.nil)))) (by dsimp only; rw [chL0_snoc ht, show chF i (chL0 i (T.take k)) t = (chL0 i (T.take k)) ++ [(twA i t.1, t.2)] from if_pos ⟨by omega, has_no.1 (by rw [List.take_of_length_le (by omega)] at hno; exact hno)⟩])
    ·try simp only [hasB, isSizeB, sB] at h6
     have hno := h6
     refine At.skipC (At.blkN (At.thenN (At.region (tM rfl rfl ?_))))
     first | refine tV (Val.addI rfl rfl (by omega) (by omega)) rfl ?_ | refine tV (Val.bin rfl rfl rfl) rfl ?_
     refine tA rfl rfl (tE ?_)
     exact At.again (k + 1, vr) (show k + 1 ≤ _ by omega) (by dsimp only; omega) (Sub.cons rfl (Sub.cons rfl (Sub.cons rfl (Sub.cons (congrArg (fun z => some (Value.int IntKind.i64 z)) (by omega)) Sub.nil)))) (by dsimp only; rw [chL0_snoc ht, show chF i (chL0 i (T.take k)) t = (chL0 i (T.take k)) from if_neg (fun g => by rw [List.take_of_length_le (by omega)] at hno; rw [has_no.2 g.2] at hno; cases hno)])
  ·try simp only [hasB, isSizeB, sB] at h3
   have hend : (chL0 i (T.take k)) = chL0 i T := by
     rcases Nat.lt_or_ge k T.length with h9 | h9
     · exact (chL0_end (by omega)).symm
     · rw [List.take_of_length_le h9]
   refine At.exitC (At.thenX (At.thenX (At.blkX (At.thenN (At.seq (At.seq ?_))))))
   rw [hend]
   refine At.region (tM rfl rfl (tV (Val.lenRow (i := 0) Tryz.underlying24 rfl rfl) rfl (tV (Val.bin rfl rfl rfl) rfl (tE ?_))))
   refine At.cond rfl (fun h9 => ?_) (fun h9 => ?_)
   ·try simp only [hasB, isSizeB, sB] at h9
    refine At.region (tM rfl rfl ?_)
    refine tV (Val.build (fun a ha => by simp only [List.map_toArray, List.map_cons, List.map_nil, ha.eval (x := (.const (.int .i64 (2056)))) rfl, ha.eval (x := (.const (.int .u64 (7)))) rfl] <;> rfl) (bld_56_0_1 _ _ )) rfl (At.buildSl (fun a ha => by simp only [List.map_toArray, List.map_cons, List.map_nil, ha.eval (x := (.tmp 71)) rfl]; try rfl) (bs_24_1 _ _ ) rfl (fun b10 => (At.appendP1 (i := 1) (j := 0) (a := 2056) (w' := 7) (by_ := 16) Tryz.underlying24 info_56 rfl rfl rfl rfl rfl rfl rfl rfl (by omega) (by omega) rfl (fun v11 => ?_))))
    simp only [sc0, scS]
    refine At.drop 0 ?_
    simp only [ec0, ecS]
    refine tA rfl rfl (tE (tR (tM rfl rfl (tA rfl rfl (tE (At.retC (At.ret1 (.inl rfl) rfl rfl rfl (fun w hw => ?_))))))))
    have e : chL i T = chL0 i T ++ [((2056 : Int), (7 : BitVec 64))] := by unfold chL; rw [if_pos (by omega), List.eq_nil_of_length_eq_zero (l := chL0 i T) (by omega)]; rfl
    rw [e]
    exact ⟨_, rfl, (hw.drop (List.singleton_sublist.2 (List.mem_of_getElem? (i := 0) rfl)))⟩
   ·try simp only [hasB, isSizeB, sB] at h9
    refine At.skipC (At.thenN (tR (tM rfl rfl (tA rfl rfl (tE (At.retC (At.ret1 (.inl rfl) rfl rfl rfl (fun w hw => ?_))))))))
    have e : chL i T = chL0 i T := if_neg (by omega)
    rw [e]
    exact ⟨_, rfl, (hw.drop (List.singleton_sublist.2 (List.mem_of_getElem? (i := 0) rfl)))⟩
end Go.Proofs.YtfchinibjhcejaaGreatDoor
namespace Go.Proofs.YtfchinibjhcejaaGreatDoor
open Go Go.Wk
def devE (l : List UInt8) (m : Int) : Ds := if m < 0 then loadD l else armD (loadD l) m.toNat
theorem bld_27_0_2 (p i c : Int) (A : Option Addr) (n k : Nat) (w : World) : (Instr.build 27 #[(0, .agg #[.int .i64 p, .int .i64 i, .int .i64 c]), (2, .slice A n k)]).run Tryz.prog w = .ok (.agg #[.int .i64 p, .int .i64 i, .int .i64 c, .bool false, .slice A n k, .slice none 0 0]) w := by kernel_rfl
theorem dead_load (l : List UInt8) : deadB (loadD l) = false := rfl
theorem jpage_p (n : Int) (w : World) :
    PureC Tryz.prog 27 [.int .i64 n] (.bool (decide (512 ≤ n ∧ n < 1024))) w := by
 refine enter0 Tryz.func27 rfl Tryz.ntmps27 rfl ?_
 simp only [envOf]
 refine tR (tA rfl rfl (tE (tR (tM rfl rfl (tV (Val.bin rfl rfl rfl) rfl (At.weaken [(0, _), (2, _), (4, _)] (Sub.cons rfl (Sub.cons rfl (Sub.cons rfl Sub.nil))) ?_))))))
 refine At.boolMeet 4 8 (decide (512 ≤ n ∧ n < 1024)) ?_ ?_
 ·simp only [List.take_succ_cons, List.take_zero]
  refine tM rfl rfl ?_
  refine At.split (t := 5) rfl (fun h1 => ?_) (fun h1 => ?_)
  ·try simp only [hasB, isSizeB, sB] at h1
   refine At.yes rfl rfl (tM rfl rfl (At.yes rfl rfl (tV (Val.bin rfl rfl rfl) rfl (tV (Val.pickT rfl rfl) rfl (At.nil ?_)))))
   exact At.boolEnd rfl (by apply Bool.eq_iff_iff.2; (simp only [decide_eq_true_eq, Bool.false_eq_true, false_iff, true_iff, gt_iff_lt, ge_iff_le]) <;> omega) (by repeat (first | exact Sub.nil | refine Sub.cons rfl ?_))
  ·try simp only [hasB, isSizeB, sB] at h1
   refine At.no rfl rfl rfl rfl (At.no rfl rfl rfl rfl (tV (Val.pickF rfl rfl) rfl (At.nil ?_)))
   exact At.boolEnd rfl (by apply Bool.eq_iff_iff.2; (simp only [decide_eq_true_eq, Bool.false_eq_true, false_iff, true_iff, gt_iff_lt, ge_iff_le]) <;> omega) (by repeat (first | exact Sub.nil | refine Sub.cons rfl ?_))
 ·simp only [List.drop_succ_cons, List.drop_zero]
  refine tA rfl rfl (tE (At.retC (At.ret1 (.inl rfl) rfl rfl rfl (fun w hw => ?_))))
  exact ⟨rfl, hw.mod⟩
theorem inTable_n (v : Value) (W : List (Int × BitVec 64)) (w : World) (hv : RdP w v W) (hW : W.length ≤ 8796093022208) :
    NewRow Tryz.prog 13 [v] 56 2 (inT W).length (prC (inT W)) w := by
 refine enter (feet []) [] Tryz.func13 rfl Tryz.ntmps13 rfl ⟨by simp, by simp, by simp, Mod.refl _ _⟩ ?_
 simp only [envOf]
 refine tR (tA rfl rfl (tE (tR (tA rfl rfl (At.nil (At.rowNilP 56 (At.thenN (At.seq (tR (tA rfl rfl (tE (At.block ?_))))))))))))
 skip
 refine At.loop (σ := Nat × Value) (fun s => s.1 ≤ W.length) (fun s => [(0, v), (3, s.2), (4, .int .i64 (s.1 : Int))]) (fun s => [rowR s.2 56 2 (inT (W.take s.1)).length (prC (inT (W.take s.1)))]) (fun s => W.length - s.1) (0, .slice none 0 0) (Nat.zero_le _) (Sub.cons rfl (Sub.cons rfl (Sub.cons rfl Sub.nil))) (List.Perm.refl _) ?_
 intro s hs
 obtain ⟨k, vr⟩ := s
 dsimp only at hs ⊢
 refine At.seq (tR (tM rfl rfl (tM rfl rfl (tV (Val.lenRd hv Tryz.underlying24 rfl) rfl (tV (Val.bin rfl rfl rfl) rfl (tE ?_))))))
 refine At.cond rfl (fun h1 => ?_) (fun h1 => ?_)
 ·try simp only [hasB, isSizeB, sB] at h1
  obtain ⟨q, hq⟩ : ∃ q, W[k]? = some q := ⟨_, List.getElem?_eq_getElem (by omega)⟩
  have hil := inT_le (W.take k)
  rw [List.length_take] at hil
  refine At.skipC (At.thenN (At.seq (At.block (tR (tM rfl rfl (tM rfl rfl (At.idxP hv Tryz.underlying24 Tryz.sizeOf56 rfl rfl (by omega) (by omega) rfl rfl (fun bx ox q1 hq1 hc0 hc1 => ?_))))))))
  rw [Int.toNat_natCast] at hq1
  obtain rfl : q = q1 := Option.some.inj (hq.symm.trans hq1)
  refine tV (Val.field ox rfl fo_56_0 rfl) rfl (tV (Val.loadOld Tryz.isAgg3 rfl hc0 (fun h => by simp [feet] at h)) rfl (tV (Val.bin rfl rfl rfl) rfl (tE ?_)))
  refine At.cond rfl (fun h2 => ?_) (fun h2 => ?_)
  ·try simp only [hasB, isSizeB, sB] at h2
   have h16 := h2
   refine At.region (tM rfl rfl (tM rfl rfl (tM rfl rfl (At.idxP hv Tryz.underlying24 Tryz.sizeOf56 rfl rfl (by omega) (by omega) rfl rfl (fun bx ox q1 hq1 hc0 hc1 => ?_)))))
   rw [Int.toNat_natCast] at hq1
   obtain rfl : q = q1 := Option.some.inj (hq.symm.trans hq1)
   refine tV (Val.loadPair Tryz.isAgg56 Tryz.sizeOf56 rfl hc0 hc1 (fun h => by simp [feet] at h)) rfl (At.buildSl (fun a ha => by simp only [List.map_toArray, List.map_cons, List.map_nil, ha.eval (x := (.tmp 21)) rfl]; try rfl) (bs_24_1 _ _ ) rfl (fun b3 => (At.appendP1 (i := 1) (j := 0) (by_ := 16) Tryz.underlying24 info_56 rfl rfl rfl rfl rfl rfl rfl rfl (by omega) (by omega) rfl (fun v4 => ?_))))
   simp only [sc0, scS]
   refine At.drop 0 ?_
   simp only [ec0, ecS]
   refine tA rfl rfl (At.nil (At.blkN (At.thenN (At.region (tM rfl rfl ?_)))))
   first | refine tV (Val.addI rfl rfl (by omega) (by omega)) rfl ?_ | refine tV (Val.bin rfl rfl rfl) rfl ?_
   refine tA rfl rfl (tE ?_)
   exact At.again (k + 1, v4) (show k + 1 ≤ _ by omega) (by dsimp only; omega) (Sub.cons rfl (Sub.cons rfl (Sub.cons (congrArg (fun z => some (Value.int IntKind.i64 z)) (by omega)) Sub.nil))) (by dsimp only; rw [inT_snoc hq, if_pos (by omega)])
  ·try simp only [hasB, isSizeB, sB] at h2
   have h16 := h2
   refine At.skipC (At.blkN (At.thenN (At.region (tM rfl rfl ?_))))
   first | refine tV (Val.addI rfl rfl (by omega) (by omega)) rfl ?_ | refine tV (Val.bin rfl rfl rfl) rfl ?_
   refine tA rfl rfl (tE ?_)
   exact At.again (k + 1, vr) (show k + 1 ≤ _ by omega) (by dsimp only; omega) (Sub.cons rfl (Sub.cons rfl (Sub.cons (congrArg (fun z => some (Value.int IntKind.i64 z)) (by omega)) Sub.nil))) (by dsimp only; rw [inT_snoc hq, if_neg (by omega), List.append_nil])
 ·try simp only [hasB, isSizeB, sB] at h1
  obtain rfl : k = W.length := by omega
  rw [List.take_length]
  refine At.exitC (At.thenX (At.thenX (At.blkX (At.thenN (tR (tM rfl rfl (tA rfl rfl (tE (At.retC (At.ret1 (.inl rfl) rfl rfl rfl (fun w hw => ?_)))))))))))
  exact ⟨_, rfl, hw⟩
theorem clean_n (p i c : Int) (bare : Bool) (vW vU : Value) (W U : List (Int × BitVec 64)) (w : World) (hvW : RdP w vW W) (hWl : W.length ≤ 8796093022208) (hpb : -9223372036854775808 ≤ p ∧ p ≤ 9223372036854775807) :
    NewRowT Tryz.prog 11 [.agg #[.int .i64 p, .int .i64 i, .int .i64 c, .bool bare, vW, vU]] (fun v => .tuple #[v, .agg #[.int .i64 (supS p i c).1, .int .i64 (supS p i c).2.1, .int .i64 (supS p i c).2.2, .int .i64 (4 + (supS p i c).2.1 / 8)]]) 5 1 (imgE (supS p i c) false (inT W) []).length ((imgE (supS p i c) false (inT W) []).map bv) w := by
 refine enter0 Tryz.func11 rfl Tryz.ntmps11 rfl ?_
 simp only [envOf]
 refine tR (At.box rfl rfl rfl (fun b1 => (tA rfl rfl (At.alloc Tryz.zeroValue31 rfl rfl (fun b2 => (tE (At.seq ?_)))))))
 apply At.any (t := 10)
 · rfl
 refine KAt.pin (fun w hw => hw.drop (List.Sublist.cons _ (List.Sublist.cons_cons _ (List.Sublist.refl _)))) (KAt.take 0 (Val.field 0 rfl fo_27_0 rfl) rfl rfl rfl rfl (fun w hw => hw.drop (List.Sublist.cons _ (List.Sublist.cons_cons _ (List.Sublist.refl _)))) (by decide +kernel) (KAt.take 1 (Val.loadPart (i := 0) Tryz.isAgg23 Tryz.sizeOf23 rfl rfl rfl rfl) rfl rfl rfl rfl (fun w hw => hw.drop (List.Sublist.cons _ (List.Sublist.cons_cons _ (List.Sublist.refl _)))) (by decide +kernel) (KAt.take 2 (Val.field 4 rfl fo_27_2 rfl) rfl rfl rfl rfl (fun w hw => hw.drop (List.Sublist.cons _ (List.Sublist.cons_cons _ (List.Sublist.refl _)))) (by decide +kernel) (KAt.take 3 (Val.load (i := 0) Tryz.isAgg24 rfl rfl rfl) rfl rfl rfl rfl (fun w hw => hw.drop (List.Sublist.cons _ (List.Sublist.cons_cons _ (List.Sublist.refl _)))) (by decide +kernel) (KAt.only 4 rfl (by decide +kernel) (At.callN (fun w hw => inTable_n vW W w (hvW.mod hw.mod) hWl) Tryz.call13 rfl rfl (fun v3 => (At.rowIs (i := 0) rfl (fun A4 c5 hv => ?_)))))))))
 subst hv
 refine At.nil (KAt.go (fun w hw => hw.drop (List.Sublist.cons _ (List.Sublist.cons _ (List.Sublist.cons_cons _ (List.Sublist.refl _))))) ?_)
 refine KAt.take 5 (Val.build (fun a ha => by simp only [List.map_toArray, List.map_cons, List.map_nil, ha.eval (x := (.tmp 5)) rfl, ha.eval (x := (.tmp 8)) rfl] <;> rfl) (bld_27_0_2 _ _ _ _ _ _ )) rfl rfl rfl rfl (fun w hw => hw.drop (List.Sublist.cons _ (List.Sublist.cons _ (List.Sublist.cons_cons _ (List.Sublist.refl _))))) (by decide +kernel) (KAt.only 6 rfl (by decide +kernel) ?_)
 refine At.callNT (g := (fun v => .tuple #[v, .agg #[.int .i64 (supS p i c).1, .int .i64 (supS p i c).2.1, .int .i64 (supS p i c).2.2, .int .i64 (4 + (supS p i c).2.1 / 8)]])) (fun w hw => image_n p i c false _ (.slice none 0 0) (inT W) [] w (row_rd (hw.row (i := 0) rfl) (by decide)) (Rd.nil w 2) (by have := inT_le W; omega) (by decide) hpb) Tryz.call14 rfl rfl (fun v6 => (At.nil (KAt.go (fun w hw => hw.drop (List.Sublist.cons _ (List.Sublist.cons _ (List.Sublist.cons _ (List.Sublist.cons_cons _ (List.Sublist.refl _)))))) (KAt.take 7 (Val.extract rfl rfl) rfl rfl rfl rfl (fun w hw => hw.drop (List.Sublist.cons _ (List.Sublist.cons _ (List.Sublist.cons _ (List.Sublist.cons_cons _ (List.Sublist.refl _)))))) (by decide +kernel) (KAt.take 8 (Val.extract rfl rfl) rfl rfl rfl rfl (fun w hw => hw.drop (List.Sublist.cons _ (List.Sublist.cons _ (List.Sublist.cons _ (List.Sublist.cons_cons _ (List.Sublist.refl _)))))) (by decide +kernel) (KAt.take 9 (Val.assign rfl) rfl rfl rfl rfl (fun w hw => hw.drop (List.Sublist.cons _ (List.Sublist.cons _ (List.Sublist.cons _ (List.Sublist.cons_cons _ (List.Sublist.refl _)))))) (by decide +kernel) (KAt.only 10 rfl (by decide +kernel) (At.storeAll (i := 2) Tryz.sizeOf31 rfl rfl rfl (by simp [Value.oneCell']) rfl rfl ?_))))))))
 simp only [sc0, scS]
 refine At.nil (KAt.goT rfl (KAt.done (by decide +kernel) (At.thenN (At.retC (At.ret2 (.inl rfl) rfl rfl rfl (ResOf.all (i := 2) Tryz.isAgg31 Tryz.sizeOf31 rfl rfl rfl) (fun w hw => ?_))))))
 exact ⟨_, rfl, (hw.drop (List.singleton_sublist.2 (List.mem_of_getElem? (i := 0) rfl))).f0⟩
theorem device_n (v : Value) (l : List UInt8) (m : Int) (w : World) (hv : RdB w v l) (hsz : isSizeB (l.length : Int) = true) (hm : m ≤ 1000000) :
    NewDevB Tryz.prog 22 [v, .int .i64 m] (devE l m) w := by
 refine enter0 Tryz.func22 rfl Tryz.ntmps22 rfl ?_
 simp only [envOf]
 refine tR (tA rfl rfl (tA rfl rfl (tE (tR (tM rfl rfl (At.callND (fun w hw => load_d _ l w (hv.mod hw.mod) hsz) Tryz.call43 rfl rfl (fun p1 y2 => (tM rfl rfl (tV (Val.extract rfl rfl) rfl (tV (Val.extract rfl rfl) rfl (tA rfl rfl (tA rfl rfl (tE (At.seq (tR (tM rfl rfl (tV (Val.eqNil (t := 51) (by kernel_rfl) rfl) rfl (tM rfl rfl (At.yes rfl rfl (tM rfl rfl (At.yes rfl rfl (tV (Val.bin rfl rfl rfl) rfl (tV (Val.pickF rfl rfl) rfl (tE (At.condF rfl (At.skipC (At.thenN (At.seq (tR (tM rfl rfl (tV (Val.bin rfl rfl rfl) rfl (tE ?_))))))))))))))))))))))))))))))))
 refine At.cond rfl (fun h3 => ?_) (fun h3 => ?_)
 ·try simp only [hasB, isSizeB, sB] at h3
  refine tR (tM rfl rfl (tM rfl rfl ?_))
  refine At.callD 0 rfl (fun w hw hr => (by have h0 := arm_d _ _ _ m.toNat w (by omega) (dead_load l) hr; rwa [show ((m.toNat : Nat) : Int) = m from by omega] at h0)) Tryz.call44 rfl rfl (fun y4 => ?_)
  simp only [sc0, scS]
  refine tA rfl rfl (tE (tR (tM rfl rfl (tM rfl rfl (tV (Val.bin rfl rfl rfl) rfl (tA rfl rfl (tA rfl rfl (tE (At.retC (At.thenR (At.ret2 (.inl rfl) rfl rfl rfl rfl (fun w hw => ?_))))))))))))
  rw [show devE l m = armD (loadD l) m.toNat from if_neg (by omega)]
  exact ⟨_, _, rfl, hw.f0⟩
 ·try simp only [hasB, isSizeB, sB] at h3
  refine At.skipC (At.thenN (tR (tM rfl rfl (tA rfl rfl (tA rfl rfl (tE (At.retC (At.ret2 (.inl rfl) rfl rfl rfl rfl (fun w hw => ?_)))))))))
  rw [show devE l m = loadD l from if_pos (by omega)]
  exact ⟨_, _, rfl, hw.f0⟩
end Go.Proofs.YtfchinibjhcejaaGreatDoor
namespace Go.Proofs.YtfchinibjhcejaaGreatDoor
open Go Go.Wk
theorem mem_lnK {ks : List Nat} {l : Nat} : l ∈ lnK ks ↔ ∃ k ∈ ks, k / 8 = l := by
  unfold lnK
  rw [List.mem_map]
  constructor
  · rintro ⟨x, hx, rfl⟩
    obtain ⟨k, hk, e⟩ := ((lnL_ok ks).2 x).1 hx
    refine ⟨k, hk, ?_⟩
    unfold lnF at e; omega
  · rintro ⟨k, hk, rfl⟩
    refine ⟨lnF k, ((lnL_ok ks).2 _).2 ⟨k, hk, rfl⟩, ?_⟩
    unfold lnF; omega
abbrev phU (U : List (Int × BitVec 64)) : Ph := (kU U, lnK (ksOf U))
abbrev ph64 (x : BitVec 64) : Ph := ([(64, x)], lnK [64])
theorem chA_ph (U : List (Int × BitVec 64)) : chA (ksOf U) (U.map Prod.snd) = phA (phU U) := by unfold chA phA stlA; rw [kU_zip]
theorem recL_ph (U : List (Int × BitVec 64)) : (recL (ksOf U) (U.map Prod.snd)).flatten = phsA [phU U, ph64 0] := by
  unfold recL phsA
  rw [chA_ph]; rfl
theorem phU_ok {i : Int} {U : List (Int × BitVec 64)} {n : Nat} (hp : PlK i U U.length) (hn : 2048 + 64 * i ≤ 8 * (n : Int)) : PhOk n (phU U) := by
  have hk : ∀ c ∈ kU U, c.1 ∈ ksOf U := fun c hc => by rw [← kU_fst]; exact List.mem_map.2 ⟨c, hc, rfl⟩
  have hlt := ks_lt (n := n) (pl_all hp) hn
  refine ⟨pl_nodup hp, fun c hc => hlt _ (hk c hc), fun c hc => mem_lnK.2 ⟨_, hk c hc, rfl⟩, fun l hl => ?_⟩
  obtain ⟨k, hkm, rfl⟩ := mem_lnK.1 hl
  have := hlt k hkm
  omega
theorem ph64_ok {n : Nat} (x : BitVec 64) (h : 64 < n) : PhOk n (ph64 x) := by
  refine ⟨by simp, fun c hc => ?_, fun c hc => ?_, fun l hl => ?_⟩
  · rw [List.mem_singleton.1 hc]; exact h
  · rw [List.mem_singleton.1 hc]; exact mem_lnK.2 ⟨64, by simp, rfl⟩
  · obtain ⟨k, hk, rfl⟩ := mem_lnK.1 hl
    rw [List.mem_singleton.1 hk]; omega
theorem kU_key {i : Int} {U : List (Int × BitVec 64)} (hp : ∀ q ∈ U, TW q.1 i) {j : Nat} (h : j ∈ (kU U).map Prod.fst) : 256 ≤ j := by
  rw [kU_fst] at h
  obtain ⟨q, hq, rfl⟩ := List.mem_map.1 h
  have := hp q hq
  unfold TW at this; omega
theorem kU_mem {U : List (Int × BitVec 64)} {q : Int × BitVec 64} (h : q ∈ U) : ((q.1 / 8).toNat, q.2) ∈ kU U := List.mem_map.2 ⟨q, h, rfl⟩
theorem plk_addr {i : Int} {U : List (Int × BitVec 64)} {n : Nat} (hp : ∀ q ∈ U, TW q.1 i) (hn : 2048 + 64 * i ≤ 8 * (n : Int)) : ∀ u ∈ U, u.1 = 8 * ((u.1 / 8).toNat : Int) ∧ (u.1 / 8).toNat < n := fun u hu => by
  have := hp u hu
  unfold TW at this; omega
theorem rec_full {σ : Ds} {vs : List (BitVec 64)} {i : Int} {U : List (Int × BitVec 64)} (hws : σ.ws = mkC vs) (ha : σ.armed = false) (hE : pndE (wbytes vs) = 0) (hL : pndL (wbytes vs) = U) (h1 : 1 ≤ U.length) (hp : PlK i U U.length) (hn : 2048 + 64 * i ≤ 8 * (vs.length : Int)) (hi : 0 ≤ i) :
    ∃ τ : Ds, rcvE σ = ((U.length : Int), 0, τ) ∧ τ.ws = mkC (setP (setP vs (kU U)) [(64, 0)]) ∧ τ.armed = false ∧ τ.steps = σ.steps + (phsA [phU U, ph64 0]).length := by
  have hv : viewWs σ.ws = vs := by rw [hws, mkC_view]
  obtain ⟨a1, a2, a3, a4⟩ := phs_full [phU U, ph64 0] hws ha (fun p hpm => by
    rcases List.mem_cons.1 hpm with rfl | hpm
    · exact phU_ok hp hn
    · rw [List.mem_singleton.1 hpm]; exact ph64_ok 0 (by omega))
  refine ⟨(actsE σ (phsA [phU U, ph64 0])).2, ?_, a2, a3, a4⟩
  unfold rcvE
  rw [hv, hE, hL, if_neg (fun g => by rcases g with g | g; exact g rfl; rw [g] at h1; exact absurd h1 (by decide)), recL_ph, a1, if_pos rfl]
theorem setP_byte {vs : List (BitVec 64)} {P : List (Nat × BitVec 64)} {j : Nat} (h : j / 8 ∉ P.map Prod.fst) : (wbytes (setP vs P))[j]? = (wbytes vs)[j]? := by
  have := wbytes_ext (j := j / 8) (r := j % 8) (setP_out P vs h) (by omega)
  rwa [show 8 * (j / 8) + j % 8 = j by omega] at this
theorem setP_same : ∀ (P : List (Nat × BitVec 64)) (vs : List (BitVec 64)), (∀ c ∈ P, vs[c.1]? = some c.2) → setP vs P = vs
  | [], _, _ => rfl
  | c :: P, vs, h => by
    have hc := h c (List.mem_cons_self ..)
    have e : vs.set c.1 c.2 = vs := by
      apply List.ext_getElem?
      intro j
      by_cases ej : j = c.1
      · subst ej; rw [List.getElem?_set_self (List.getElem?_eq_some_iff.1 hc).1, hc]
      · rw [List.getElem?_set_ne (Ne.symm ej)]
    show setP (vs.set c.1 c.2) P = vs
    rw [e]
    exact setP_same P vs (fun x hx => h x (List.mem_cons_of_mem _ hx))
def insB (L : List (Int × BitVec 64)) (j : Nat) : Bool := L.any fun q => decide (q.1 ≤ (j : Int) ∧ (j : Int) < q.1 + 8)
theorem ins_key {i : Int} {L : List (Int × BitVec 64)} {j : Nat} (hp : ∀ q ∈ L, TW q.1 i) (h : insB L j = false) : j / 8 ∉ (kU L).map Prod.fst := fun hm => by
  rw [kU_fst] at hm
  obtain ⟨q, hq, e⟩ := List.mem_map.1 hm
  unfold insB at h
  rw [List.any_eq_false] at h
  have h1 := h q hq
  have h2 := hp q hq
  unfold TW at h2
  rw [decide_eq_true_eq] at h1
  omega
structure Told (l : List UInt8) (s : Int × Int × Int) (L : List (Int × BitVec 64)) : Prop where
  sup : SupIm l s
  un : openUnE (page l) = 0 ∧ openUnL (page l) = L
  pl : PlK s.2.1 L L.length
section
variable {l : List UInt8} {s : Int × Int × Int} {L : List (Int × BitVec 64)}
theorem Told.nums (h : Told l s L) : 24 ≤ s.1 ∧ s.1 ≤ 1024 ∧ 8 ≤ s.2.1 ∧ s.2.1 ≤ 256 ∧ l.length = 512 * s.1.toNat ∧ 2048 + 64 * s.2.1 ≤ (l.length : Int) := by
  have hg := h.sup.g
  unfold GoodSup at hg
  have hl := h.sup.len
  omega
theorem Told.pnd (h : Told l s L) : pndE l = 0 ∧ pndL l = L := h.sup.pnd h.un (pl_all h.pl)
theorem Told.words (h : Told l s L) : wbytes (wds l) = l := wds_bytes (by have := h.nums; omega)
theorem Told.wlen (h : Told l s L) : (wds l).length = 64 * s.1.toNat := by rw [wds_len]; have := h.nums; omega
theorem Told.over (h : Told l s L) : ovR l = wbytes (setP (wds l) (kU L)) := by
  obtain ⟨g1, g2⟩ := h.pnd
  rw [ovR_yes g1, g2]
  conv => lhs; rw [← h.words]
  exact ovl_set L (wds l) (plk_addr (n := (wds l).length) (pl_all h.pl) (by rw [h.wlen]; have := h.nums; omega))
theorem Told.olen (h : Told l s L) : (ovR l).length = l.length := by rw [h.over, wbytes_length, setP_len, h.wlen]; have := h.nums; omega
theorem Told.out (h : Told l s L) {j : Nat} (hj : insB L j = false) : (ovR l)[j]? = l[j]? := by
  rw [h.over, setP_byte (ins_key (pl_all h.pl) hj), h.words]
theorem low_out (hp : ∀ q ∈ L, TW q.1 s.2.1) {j : Nat} (hj : j < 2048) : insB L j = false := by
  unfold insB
  rw [List.any_eq_false]
  intro q hq
  have := hp q hq
  unfold TW at this
  rw [decide_eq_true_eq]; omega
theorem Told.word (h : Told l s L) {q : Int × BitVec 64} (hq : q ∈ L) : wdA (ovR l) q.1.toNat = q.2 := by
  have ha := plk_addr (n := (wds l).length) (pl_all h.pl) (by rw [h.wlen]; have := h.nums; omega) q hq
  rw [h.over]
  exact wdA_wb (k := (q.1 / 8).toNat) (setP_in _ _ (pl_nodup h.pl) (kU_mem hq) ha.2) (by omega)
theorem Told.again (h : Told l s L) : Told (ovR l) s L := by
  refine ⟨h.sup.of h.olen (fun i hi => h.out (low_out (pl_all h.pl) (by omega))), ?_, h.pl⟩
  have e : page (ovR l) = page l := by
    unfold page
    apply List.ext_getElem?
    intro i
    rw [List.getElem?_take, List.getElem?_take]
    split
    · rw [List.getElem?_drop, List.getElem?_drop]
      exact h.out (low_out (pl_all h.pl) (by omega))
    · rfl
  rw [e]; exact h.un
theorem Told.recover (h : Told l s L) (h1 : 1 ≤ L.length) : ∃ τ : Ds, rcvE (loadD l) = ((L.length : Int), 0, τ) ∧ τ.ws.length = (loadD l).ws.length ∧ τ.steps ≤ 60 ∧ τ.armed = false ∧ (wbytes (viewWs τ.ws)).length = l.length ∧ (∀ j, ¬ (512 ≤ j ∧ j < 1024) → (wbytes (viewWs τ.ws))[j]? = (ovR l)[j]?) ∧
    ∀ (sc : Int) (cs : List (Int × BitVec 64)), GoodSup s.1 s.2.1 sc → ¬ (cs.length = 0 ∨ 8 < cs.length) → PlK s.2.1 cs cs.length → (comE τ s.1 s.2.1 sc (4 + s.2.1 / 8) cs).1 = 0 := by
  obtain ⟨g1, g2⟩ := h.pnd
  have hn := h.nums
  have hwl := h.wlen
  obtain ⟨τ, e1, e2, e3, e4⟩ := rec_full (σ := loadD l) (vs := wds l) (i := s.2.1) (U := L) (wds_load l) rfl (by rw [h.words]; exact g1) (by rw [h.words]; exact g2) h1 h.pl (by rw [hwl]; omega) (by omega)
  have hr := rcvE_rest (σ := loadD l)
  rw [e1] at hr
  have hv : viewWs τ.ws = setP (setP (wds l) (kU L)) [(64, 0)] := by rw [e2, mkC_view]
  have hvl : (wbytes (viewWs τ.ws)).length = l.length := by rw [hv, wbytes_length, setP_len, setP_len, hwl]; omega
  have hby : ∀ j, ¬ (512 ≤ j ∧ j < 520) → (wbytes (viewWs τ.ws))[j]? = (ovR l)[j]? := fun j hj => by
    rw [hv, setP_byte (by simp only [List.map_cons, List.map_nil, List.mem_singleton]; omega), ← h.over]
  have hsup : SupIm (wbytes (viewWs τ.ws)) s := h.sup.of hvl (fun i hi => by rw [hby i (by omega)]; exact h.out (low_out (pl_all h.pl) (by omega)))
  refine ⟨τ, e1, hr.1, by have := hr.2; exact this, e3, hvl, fun j hj => hby j (by omega), fun sc cs hg hc1 hc2 => ?_⟩
  have hlen : τ.ws.length = 64 * s.1.toNat := by rw [e2, mkC_length, setP_len, setP_len, hwl]
  have hun : openUnE (page (wbytes (viewWs τ.ws))) = 0 ∧ openUnL (page (wbytes (viewWs τ.ws))) = [] := und0 (by omega) (by
    rw [hv]
    exact wdA_wb (k := 64) (setP_in _ _ (by simp) (List.mem_singleton.2 rfl) (by rw [setP_len, hwl]; omega)) rfl)
  rw [com_go ⟨hg, rfl, by rw [hlen]; omega⟩ hc1 hc2 hun]
  obtain ⟨hokC, _⟩ := acs_ok (σ := τ) (ks := ksOf cs) (xs := cs.map Prod.snd) (ks_lt (pl_all hc2) (by rw [hlen]; omega)) (by rw [ksOf_len]; omega) (by rw [hlen]; omega)
  exact dead_of_acts hokC e3
end
theorem inT_all (W : List (Int × BitVec 64)) : ∀ q ∈ inT W, 1024 ≤ q.1 := fun q hq => by
  have := (List.mem_filter.1 hq).2
  simpa using this
end Go.Proofs.YtfchinibjhcejaaGreatDoor
namespace Go.Proofs.YtfchinibjhcejaaGreatDoor
open Go Go.Wk
def ixP : Nat → List (BitVec 64) → List (Nat × BitVec 64)
  | _, [] => []
  | k, x :: l => (k, x) :: ixP (k + 1) l
theorem stA_ix : ∀ (l : List (BitVec 64)) (k : Nat), stA k l = (ixP k l).map fun c => Ac.st c.1 c.2
  | [], _ => rfl
  | x :: l, k => by rw [stA, ixP, List.map_cons, stA_ix l]
theorem ixP_len : ∀ (l : List (BitVec 64)) (k : Nat), (ixP k l).length = l.length
  | [], _ => rfl
  | x :: l, k => by rw [ixP, List.length_cons, ixP_len l, List.length_cons]
theorem ixP_mem : ∀ {l : List (BitVec 64)} {k j : Nat} {x : BitVec 64}, (j, x) ∈ ixP k l → k ≤ j ∧ j < k + l.length
  | y :: l, k, j, x, h => by
    rw [ixP] at h
    rw [List.length_cons]
    rcases List.mem_cons.1 h with e | h
    · simp only [Prod.mk.injEq] at e; omega
    · have := ixP_mem h; omega
theorem ixP_at : ∀ {l : List (BitVec 64)} {k i : Nat} {x : BitVec 64}, l[i]? = some x → (k + i, x) ∈ ixP k l
  | y :: l, k, 0, x, h => by
    obtain rfl := Option.some.inj h
    exact List.mem_cons_self ..
  | y :: l, k, i + 1, x, h => by
    rw [ixP]
    have := ixP_at (l := l) (k := k + 1) (i := i) (x := x) h
    rw [show k + 1 + i = k + (i + 1) by omega] at this
    exact List.mem_cons_of_mem _ this
theorem ixP_nd : ∀ (l : List (BitVec 64)) (k : Nat), ((ixP k l).map Prod.fst).Nodup
  | [], _ => by simp [ixP]
  | x :: l, k => by
    rw [ixP, List.map_cons, List.nodup_cons]
    refine ⟨fun h => ?_, ixP_nd l (k + 1)⟩
    obtain ⟨⟨j, y⟩, hm, e⟩ := List.mem_map.1 h
    have := ixP_mem hm
    simp only at e; omega
def rnF : Nat → Nat → List Nat
  | _, 0 => []
  | l, c + 1 => l :: rnF (l + 1) c
theorem flA_rn : ∀ (c l : Nat), flA l c = (rnF l c).map Ac.fl
  | 0, _ => rfl
  | c + 1, l => by rw [flA, rnF, List.map_cons, flA_rn c]
theorem rnF_len : ∀ (c l : Nat), (rnF l c).length = c
  | 0, _ => rfl
  | c + 1, l => by rw [rnF, List.length_cons, rnF_len c]
theorem rnF_mem : ∀ {c l x : Nat}, x ∈ rnF l c ↔ l ≤ x ∧ x < l + c
  | 0, l, x => by simp only [rnF, List.not_mem_nil, false_iff]; omega
  | c + 1, l, x => by rw [rnF, List.mem_cons, rnF_mem (c := c)]; omega
def sealN (n : Nat) : BitVec 64 := sealW (BitVec.ofInt 64 512) (BitVec.ofInt 32 (n : Int))
def seal65 (W : List (BitVec 64)) : BitVec 64 := sealW (BitVec.ofInt 64 520) (sumOn 0 (wbytes W))
abbrev ph65 (W : List (BitVec 64)) : Ph := (ixP 72 W ++ [(65, seal65 W)], rnF 8 (cntL 512 (64 + 8 * W.length)))
theorem wrA_ph (W : List (BitVec 64)) : wrA W = phA (ph65 W) := by
  unfold wrA wrB phA
  rw [stA_ix, flA_rn, List.map_append, List.append_assoc]; rfl
theorem ph65_ok {W : List (BitVec 64)} {n : Nat} (hW : W.length ≤ 16) (hn : 128 ≤ n) : PhOk n (ph65 W) := by
  have hk : ∀ c ∈ (ph65 W).1, c.1 = 65 ∨ 72 ≤ c.1 ∧ c.1 < 72 + W.length := fun c hc => by
    rcases List.mem_append.1 hc with hc | hc
    · exact .inr (ixP_mem (x := c.2) hc)
    · rw [List.mem_singleton.1 hc]; exact .inl rfl
  refine ⟨?_, fun c hc => by have := hk c hc; omega, fun c hc => ?_, fun l hl => ?_⟩
  · rw [List.map_append, List.nodup_append]
    refine ⟨ixP_nd W 72, by simp, fun a ha b hb e => ?_⟩
    obtain ⟨⟨j, y⟩, hm, e'⟩ := List.mem_map.1 ha
    have := ixP_mem hm
    simp only [List.map_cons, List.map_nil, List.mem_singleton] at hb
    simp only at e'; omega
  · have := hk c hc
    refine rnF_mem.2 ?_
    unfold cntL
    rw [if_neg (by omega)]; omega
  · have := rnF_mem.1 hl
    unfold cntL at this
    rw [if_neg (by omega)] at this; omega
theorem com_ph (σ : Ds) (cs : List (Int × BitVec 64)) : (comL σ (ksOf cs) (cs.map Prod.snd)).flatten = phsA [ph65 (recW σ (ksOf cs)), ph64 (sealN cs.length), phU cs, ph64 0] := by
  unfold comL phsA
  rw [wrA_ph, chA_ph, ksOf_len]; rfl
theorem lnK64 : (lnK [64]).length = 1 := by
  have h1 := lnL_len [64]
  rw [lnK_len]
  have h2 : 8 ∈ lnK [64] := mem_lnK.2 ⟨64, by simp, rfl⟩
  have h3 : 0 < (lnK [64]).length := List.length_pos_of_mem h2
  rw [lnK_len] at h3
  simp only [List.length_singleton] at h1
  omega
theorem ph64_len (x : BitVec 64) : (phA (ph64 x)).length = 3 := by rw [phA_len]; show 1 + (lnK [64]).length + 1 = 3; rw [lnK64]
theorem ph65_len {W : List (BitVec 64)} {n : Nat} (h : W.length = 2 * n) : (phA (ph65 W)).length = 2 * n + (n + 3) / 4 + 3 := by
  rw [phA_len, List.length_append, ixP_len, rnF_len, List.length_singleton]
  unfold cntL
  rw [if_neg (by omega)]; omega
theorem nowAt_C {σ : Ds} {vs : List (BitVec 64)} (h : σ.ws = mkC vs) {j : Nat} {v : BitVec 64} (hv : vs[j]? = some v) : nowAt σ j = v := by
  rw [nowAt_some (by rw [h]; exact mkC_at hv)]; rfl
theorem plk_fst {i : Int} {L M : List (Int × BitVec 64)} (h : M.map Prod.fst = L.map Prod.fst) (hp : PlK i L L.length) : PlK i M M.length := fun j q hj hq => by
  have hl : M.length = L.length := by have := congrArg List.length h; rwa [List.length_map, List.length_map] at this
  have h1 : (L.map Prod.fst)[j]? = some q.1 := by rw [← h, List.getElem?_map, hq]; rfl
  rw [List.getElem?_map, Option.map_eq_some_iff] at h1
  obtain ⟨c, hc, e⟩ := h1
  obtain ⟨t1, t2⟩ := hp j c (by omega) hc
  refine ⟨e ▸ t1, ?_⟩
  rw [List.map_take, h, ← List.map_take, ← e]; exact t2
def Rec (us : List (BitVec 64)) (U : List (Int × BitVec 64)) : Prop := us[64]? = some (sealN U.length) ∧ us[65]? = some (seal65 (undW U)) ∧ ∀ i x, (undW U)[i]? = some x → us[72 + i]? = some x
section
variable {vs us : List (BitVec 64)} {s : Int × Int × Int}
theorem SupIm.w (h : SupIm (wbytes vs) s) (hl : us.length = vs.length) (hj : ∀ j, j < 8 → us[j]? = vs[j]?) : SupIm (wbytes us) s :=
  h.of (by rw [wbytes_length, wbytes_length, hl]) fun i hi => by
    have := wbytes_ext (j := i / 8) (r := i % 8) (hj (i / 8) (by omega)) (by omega)
    rwa [show 8 * (i / 8) + i % 8 = i by omega] at this
theorem SupIm.wl (h : SupIm (wbytes vs) s) : 24 ≤ s.1 ∧ s.1 ≤ 1024 ∧ 8 ≤ s.2.1 ∧ s.2.1 ≤ 256 ∧ vs.length = 64 * s.1.toNat ∧ 2048 + 64 * s.2.1 ≤ 8 * (vs.length : Int) := by
  have hg := h.g
  unfold GoodSup at hg
  have hl := h.len
  rw [wbytes_length] at hl
  omega
theorem told_0 (h : SupIm (wbytes us) s) (h64 : us[64]? = some 0) : Told (wbytes us) s [] := by
  have := h.wl
  exact ⟨h, und0 (by rw [wbytes_length]; omega) (wdA_wb h64 rfl), fun j q hj _ => absurd hj (Nat.not_lt_zero _)⟩
theorem told_U (h : SupIm (wbytes us) s) {U : List (Int × BitVec 64)} (hr : Rec us U) (h1 : 1 ≤ U.length) (h8 : U.length ≤ 8) (hp : PlK s.2.1 U U.length) : Told (wbytes us) s U := by
  have hn := h.wl
  exact ⟨h, undU (by rw [wbytes_length]; omega) (plk_good (by omega) h1 h8 hp) (wdA_wb hr.1 rfl) (wdA_wb hr.2.1 rfl) (fun i x hx => wdA_wb (hr.2.2 i x hx) (by omega)), hp⟩
theorem wds_wb (us : List (BitVec 64)) : wds (wbytes us) = us := by unfold wds; rw [wbytes_length, Nat.mul_div_cancel_left _ (by decide), wordsL_wbytes]
theorem Told.ov {U : List (Int × BitVec 64)} (h : Told (wbytes us) s U) : ovR (wbytes us) = wbytes (setP us (kU U)) := by rw [h.over, wds_wb]
end
theorem inv_at {vs : List (BitVec 64)} {P : List (Nat × BitVec 64)} {ws : List Wd} {cs : List Int} (h : Inv vs P ws) (hl : ws.length = vs.length) {j : Nat} : (picked ws (pkC ws cs))[j]? = vs[j]? ∨ ∃ u, (picked ws (pkC ws cs))[j]? = some u ∧ (j, u) ∈ P := by
  cases hu : (picked ws (pkC ws cs))[j]? with
  | none =>
    have h1 := List.getElem?_eq_none_iff.1 hu
    rw [picked_length, hl] at h1
    exact .inl (List.getElem?_eq_none h1).symm
  | some u =>
    rcases inv_pick h hu with e | e
    · exact .inl e.symm
    · exact .inr ⟨u, rfl, e⟩
theorem inv_out {vs : List (BitVec 64)} {P : List (Nat × BitVec 64)} {ws : List Wd} {cs : List Int} (h : Inv vs P ws) (hl : ws.length = vs.length) {j : Nat} (hj : j ∉ P.map Prod.fst) : (picked ws (pkC ws cs))[j]? = vs[j]? := by
  rcases inv_at (cs := cs) h hl (j := j) with e | ⟨u, _, hm⟩
  · exact e
  · exact absurd (List.mem_map.2 ⟨(j, u), hm, rfl⟩) hj
theorem setP_cong {P : List (Nat × BitVec 64)} {xs ys : List (BitVec 64)} (hn : (P.map Prod.fst).Nodup) (hl : xs.length = ys.length) {j : Nat} (h : xs[j]? = ys[j]?) : (setP xs P)[j]? = (setP ys P)[j]? := by
  by_cases hj : j ∈ P.map Prod.fst
  · obtain ⟨⟨j', x⟩, hm, e⟩ := List.mem_map.1 hj
    obtain rfl : j' = j := e
    rcases Nat.lt_or_ge j' xs.length with g | g
    · rw [setP_in P xs hn hm g, setP_in P ys hn hm (by omega)]
    · rw [List.getElem?_eq_none (by rw [setP_len]; exact g), List.getElem?_eq_none (by rw [setP_len]; omega)]
  · rw [setP_out P xs hj, setP_out P ys hj, h]
def olds0 (vs : List (BitVec 64)) (cs : List (Int × BitVec 64)) : List (Int × BitVec 64) := cs.map fun q => (q.1, vs.getD (q.1 / 8).toNat 0)
theorem olds0_fst (vs : List (BitVec 64)) (cs : List (Int × BitVec 64)) : (olds0 vs cs).map Prod.fst = cs.map Prod.fst := by unfold olds0; rw [List.map_map]; rfl
theorem olds0_len (vs : List (BitVec 64)) (cs : List (Int × BitVec 64)) : (olds0 vs cs).length = cs.length := List.length_map ..
theorem olds0_ks (vs : List (BitVec 64)) (cs : List (Int × BitVec 64)) : ksOf (olds0 vs cs) = ksOf cs := by unfold ksOf olds0; rw [List.map_map]; rfl
theorem back {vs us : List (BitVec 64)} {cs : List (Int × BitVec 64)} {i : Int} (hp : PlK i cs cs.length) (hn : 2048 + 64 * i ≤ 8 * (vs.length : Int)) (hl : us.length = vs.length) {j : Nat} (hj : j ∉ ksOf cs → us[j]? = vs[j]?) : (setP us (kU (olds0 vs cs)))[j]? = vs[j]? := by
  have hnd : ((kU (olds0 vs cs)).map Prod.fst).Nodup := by rw [kU_fst, olds0_ks, ← kU_fst]; exact pl_nodup hp
  by_cases hk : j ∈ ksOf cs
  · have hlt := ks_lt (n := vs.length) (pl_all hp) hn j hk
    have hm : (j, vs.getD j 0) ∈ kU (olds0 vs cs) := by
      obtain ⟨q, hq, e⟩ := List.mem_map.1 hk
      have := kU_mem (U := olds0 vs cs) (q := (q.1, vs.getD (q.1 / 8).toNat 0)) (List.mem_map.2 ⟨q, hq, rfl⟩)
      simp only at this e
      rwa [e] at this
    rw [setP_in _ us hnd hm (by omega), List.getD_eq_getElem?_getD, List.getElem?_eq_getElem hlt]; rfl
  · rw [setP_out _ us (by rw [kU_fst, olds0_ks]; exact hk), hj hk]
def pg (j : Nat) : Prop := 64 ≤ j ∧ j < 128
theorem ks_pg {i : Int} {cs : List (Int × BitVec 64)} (hp : ∀ q ∈ cs, TW q.1 i) {j : Nat} (h : j ∈ ksOf cs) : ¬ pg j ∧ 256 ≤ j := by
  have := kU_key hp (by rw [kU_fst]; exact h)
  unfold pg; omega
section
variable {vs : List (BitVec 64)} {s : Int × Int × Int} {cs : List (Int × BitVec 64)} {σ : Ds}
theorem rec_undW (hws : σ.ws = mkC vs) (hp : PlK s.2.1 cs cs.length) (hn : 2048 + 64 * s.2.1 ≤ 8 * (vs.length : Int)) : recW σ (ksOf cs) = undW (olds0 vs cs) := by
  rw [← unF_w (σ := σ) (ks_ad (pl_all hp))]
  congr 1
  unfold unF olds0
  refine List.map_congr_left fun q hq => ?_
  have hk : (q.1 / 8).toNat < vs.length := ks_lt (n := vs.length) (pl_all hp) hn _ (List.mem_map.2 ⟨q, hq, rfl⟩)
  rw [nowAt_C hws (List.getElem?_eq_getElem hk), List.getD_eq_getElem?_getD, List.getElem?_eq_getElem hk]; rfl
abbrev comP (vs : List (BitVec 64)) (cs : List (Int × BitVec 64)) : List Ph := [ph65 (undW (olds0 vs cs)), ph64 (sealN cs.length), phU cs, ph64 0]
theorem comP_ok (h8 : cs.length ≤ 8) (hp : PlK s.2.1 cs cs.length) (hn : 2048 + 64 * s.2.1 ≤ 8 * (vs.length : Int)) (hl : 128 ≤ vs.length) : ∀ p ∈ comP vs cs, PhOk vs.length p := fun p hm => by
  simp only [comP, List.mem_cons, List.not_mem_nil, or_false] at hm
  rcases hm with rfl | rfl | rfl | rfl
  · exact ph65_ok (by rw [undW_len, olds0_len]; omega) hl
  · exact ph64_ok _ (by omega)
  · exact phU_ok hp hn
  · exact ph64_ok _ (by omega)
def first (n : Nat) : Nat := 2 * n + (n + 3) / 4 + 6
theorem p65_out {W : List (BitVec 64)} (hW : W.length ≤ 16) {j : Nat} (h : j ≠ 65 ∧ ¬ (72 ≤ j ∧ j < 88)) : j ∉ (ph65 W).1.map Prod.fst := fun hm => by
  obtain ⟨⟨k, x⟩, hc, e⟩ := List.mem_map.1 hm
  simp only at e
  rcases List.mem_append.1 hc with hc | hc
  · have := ixP_mem hc; omega
  · have := congrArg Prod.fst (List.mem_singleton.1 hc); simp only at this; omega
theorem com_cut (hS : SupIm (wbytes vs) s) (hws : σ.ws = mkC vs) (ha : σ.armed = false) (h64 : vs[64]? = some 0) (h1 : 1 ≤ cs.length) (h8 : cs.length ≤ 8) (hp : PlK s.2.1 cs cs.length) {m : Nat} (hm : m < (phsA (comP vs cs)).length) (ch : List Int) :
    ∃ U us, picked (actsE σ ((phsA (comP vs cs)).take m)).2.ws (pkC (actsE σ ((phsA (comP vs cs)).take m)).2.ws ch) = us ∧ us.length = vs.length ∧ Told (wbytes us) s U ∧ U.length ≤ 8 ∧
      ((∀ j, ¬ pg j → (setP us (kU U))[j]? = vs[j]?) ∨ (first cs.length < m ∧ ∀ j, ¬ pg j → (setP us (kU U))[j]? = (setP vs (kU cs))[j]?)) := by
  have hn := hS.wl
  have hU0 := olds0_len vs cs
  have hWl : (undW (olds0 vs cs)).length = 2 * cs.length := by rw [undW_len, hU0]
  have hok := comP_ok h8 hp hn.2.2.2.2.2 (by omega)
  obtain ⟨l1, p, l2, e, g1, g2, hi⟩ := phs_cut (comP vs cs) (m := m) hws ha hok hm
  have hlen : (actsE σ ((phsA (comP vs cs)).take m)).2.ws.length = vs.length := by
    have okA : ∀ a ∈ (phsA (comP vs cs)).take m, AcOk σ.ws.length a := fun a h => by
      obtain ⟨A, hA, h⟩ := List.mem_flatten.1 (List.mem_of_mem_take h)
      obtain ⟨p, hpm, rfl⟩ := List.mem_map.1 hA
      rw [hws, mkC_length]; exact (hok p hpm).ac a h
    rw [(actsE_rest _ σ okA).1, hws, mkC_length]
  generalize (actsE σ ((phsA (comP vs cs)).take m)).2.ws = ws at *
  generalize hus : picked ws (pkC ws ch) = us
  have hul : us.length = vs.length := by rw [← hus, picked_length, hlen]
  have hall := pl_all hp
  have hpU : PlK s.2.1 (olds0 vs cs) (olds0 vs cs).length := plk_fst (olds0_fst vs cs) hp
  have hnU : ((kU cs).map Prod.fst).Nodup := pl_nodup hp
  -- the words behind the steps ahead
  have k1 : ∀ j, j ≠ 65 → ¬ (72 ≤ j ∧ j < 88) → (setP vs (ph65 (undW (olds0 vs cs))).1)[j]? = vs[j]? := fun j a b => setP_out _ _ (p65_out (by omega) ⟨a, b⟩)
  have nd1 := (hok _ (List.mem_cons_self ..)).nd
  have r65 : (setP vs (ph65 (undW (olds0 vs cs))).1)[65]? = some (seal65 (undW (olds0 vs cs))) := setP_in _ _ nd1 (List.mem_append_right _ (List.mem_singleton.2 rfl)) (by omega)
  have r72 : ∀ i x, (undW (olds0 vs cs))[i]? = some x → (setP vs (ph65 (undW (olds0 vs cs))).1)[72 + i]? = some x := fun i x hx => by
    have hi' := (List.getElem?_eq_some_iff.1 hx).1
    exact setP_in _ _ nd1 (List.mem_append_left _ (ixP_at hx)) (by omega)
  generalize hv1 : setP vs (ph65 (undW (olds0 vs cs))).1 = v1 at *
  have l1' : v1.length = vs.length := by rw [← hv1, setP_len]
  have k64 : ∀ (x : BitVec 64) (v : List (BitVec 64)) (j : Nat), j ≠ 64 → (setP v (ph64 x).1)[j]? = v[j]? := fun x v j h => setP_out _ _ (by simp only [ph64, List.map_cons, List.map_nil, List.mem_singleton]; exact h)
  have s64 : ∀ (x : BitVec 64) (v : List (BitVec 64)), 64 < v.length → (setP v (ph64 x).1)[64]? = some x := fun x v h => setP_in _ _ (by simp [ph64]) (List.mem_singleton.2 rfl) h
  have mkRec : ∀ w : List (BitVec 64), w[64]? = some (sealN cs.length) → (∀ j, j ≠ 64 → j < 128 → w[j]? = v1[j]?) → Rec w (olds0 vs cs) := fun w a b => ⟨by rw [hU0]; exact a, by rw [b 65 (by decide) (by decide)]; exact r65, fun i x hx => by
    have hi' := (List.getElem?_eq_some_iff.1 hx).1
    rw [b (72 + i) (by omega) (by omega)]; exact r72 i x hx⟩
  have hbk : ∀ w : List (BitVec 64), w.length = vs.length → (∀ j, ¬ pg j → j ∉ ksOf cs → w[j]? = vs[j]?) → ∀ j, ¬ pg j → (setP w (kU (olds0 vs cs)))[j]? = vs[j]? := fun w a b j hj => back hp hn.2.2.2.2.2 a (b j hj)
  have told0 : ∀ w : List (BitVec 64), w.length = vs.length → (∀ j, j < 8 → w[j]? = vs[j]?) → w[64]? = some 0 → Told (wbytes w) s [] := fun w a b c => told_0 (hS.w a b) c
  have toldU : ∀ w : List (BitVec 64), w.length = vs.length → (∀ j, j < 8 → w[j]? = vs[j]?) → Rec w (olds0 vs cs) → Told (wbytes w) s (olds0 vs cs) := fun w a b c => told_U (hS.w a b) c (by omega) (by omega) hpU
  have npg : ∀ j, ¬ pg j → j ≠ 65 ∧ ¬ (72 ≤ j ∧ j < 88) ∧ j ≠ 64 := fun j h => by unfold pg at h; omega
  match l1, e, g1, g2, hi with
  | [], e, g1, g2, hi =>
    obtain rfl : ph65 (undW (olds0 vs cs)) = p := (List.cons.inj e).1
    have hu : ∀ j, j ≠ 65 → ¬ (72 ≤ j ∧ j < 88) → us[j]? = vs[j]? := fun j a b => by rw [← hus]; exact inv_out hi hlen (p65_out (by omega) ⟨a, b⟩)
    exact ⟨[], us, rfl, hul, told0 us hul (fun j hj => hu j (by omega) (by omega)) ((hu 64 (by decide) (by decide)).trans h64), by decide, .inl fun j hj => hu j (npg j hj).1 (npg j hj).2.1⟩
  | [p1], e, g1, g2, hi =>
    obtain ⟨e1, e2⟩ := List.cons.inj e
    obtain rfl : ph65 (undW (olds0 vs cs)) = p1 := e1
    obtain rfl : ph64 (sealN cs.length) = p := (List.cons.inj e2).1
    have hi' : Inv v1 (ph64 (sealN cs.length)).1 ws := by rw [← hv1]; exact hi
    have hu : ∀ j, j ≠ 64 → us[j]? = v1[j]? := fun j a => by rw [← hus]; exact inv_out hi' (by omega) (by simp only [ph64, List.map_cons, List.map_nil, List.mem_singleton]; exact a)
    have hlow : ∀ j, j < 8 → us[j]? = vs[j]? := fun j hj => (hu j (by omega)).trans (k1 j (by omega) (by omega))
    have hout : ∀ j, ¬ pg j → us[j]? = vs[j]? := fun j hj => (hu j (npg j hj).2.2).trans (k1 j (npg j hj).1 (npg j hj).2.1)
    rcases inv_at (cs := ch) hi' (by omega) (j := 64) with h | ⟨u, h, hm'⟩
    · rw [hus] at h
      exact ⟨[], us, rfl, hul, told0 us hul hlow (h.trans ((k1 64 (by decide) (by decide)).trans h64)), by decide, .inl hout⟩
    · rw [hus] at h
      obtain rfl : u = sealN cs.length := by have := List.mem_singleton.1 hm'; exact congrArg Prod.snd this
      exact ⟨olds0 vs cs, us, rfl, hul, toldU us hul hlow (mkRec us h (fun j a _ => hu j a)), by omega, .inl (hbk us hul fun j hj _ => hout j hj)⟩
  | [p1, p2], e, g1, g2, hi =>
    obtain ⟨e1, e2⟩ := List.cons.inj e
    obtain ⟨e2, e3⟩ := List.cons.inj e2
    obtain rfl : ph65 (undW (olds0 vs cs)) = p1 := e1
    obtain rfl : ph64 (sealN cs.length) = p2 := e2
    obtain rfl : phU cs = p := (List.cons.inj e3).1
    have hi' : Inv (setP v1 (ph64 (sealN cs.length)).1) (kU cs) ws := by rw [← hv1]; exact hi
    have hu : ∀ j, j ∉ ksOf cs → us[j]? = (setP v1 (ph64 (sealN cs.length)).1)[j]? := fun j a => by rw [← hus]; exact inv_out hi' (by rw [setP_len]; omega) (by rw [kU_fst]; exact a)
    have nk : ∀ j, j < 256 → j ∉ ksOf cs := fun j hj h => by have := (ks_pg hall h).2; omega
    have hlow : ∀ j, j < 8 → us[j]? = vs[j]? := fun j hj => (hu j (nk j (by omega))).trans ((k64 _ _ j (by omega)).trans (k1 j (by omega) (by omega)))
    exact ⟨olds0 vs cs, us, rfl, hul, toldU us hul hlow (mkRec us ((hu 64 (nk 64 (by decide))).trans (s64 _ _ (by omega))) (fun j a b => (hu j (nk j (by omega))).trans (k64 _ _ j a))), by omega,
      .inl (hbk us hul fun j hj hk => (hu j hk).trans ((k64 _ _ j (npg j hj).2.2).trans (k1 j (npg j hj).1 (npg j hj).2.1)))⟩
  | [p1, p2, p3], e, g1, g2, hi =>
    obtain ⟨e1, e2⟩ := List.cons.inj e
    obtain ⟨e2, e3⟩ := List.cons.inj e2
    obtain ⟨e3, e4⟩ := List.cons.inj e3
    obtain rfl : ph65 (undW (olds0 vs cs)) = p1 := e1
    obtain rfl : ph64 (sealN cs.length) = p2 := e2
    obtain rfl : phU cs = p3 := e3
    obtain rfl : ph64 0 = p := (List.cons.inj e4).1
    have hi' : Inv (setP (setP v1 (ph64 (sealN cs.length)).1) (kU cs)) (ph64 0).1 ws := by rw [← hv1]; exact hi
    have hu : ∀ j, j ≠ 64 → us[j]? = (setP (setP v1 (ph64 (sealN cs.length)).1) (kU cs))[j]? := fun j a => by rw [← hus]; exact inv_out hi' (by rw [setP_len, setP_len]; omega) (by simp only [ph64, List.map_cons, List.map_nil, List.mem_singleton]; exact a)
    have nk : ∀ j, j < 256 → j ∉ (kU cs).map Prod.fst := fun j hj h => by rw [kU_fst] at h; have := (ks_pg hall h).2; omega
    have hlow : ∀ j, j < 8 → us[j]? = vs[j]? := fun j hj => (hu j (by omega)).trans ((setP_out _ _ (nk j (by omega))).trans ((k64 _ _ j (by omega)).trans (k1 j (by omega) (by omega))))
    rcases inv_at (cs := ch) hi' (by rw [setP_len, setP_len]; omega) (j := 64) with h | ⟨u, h, hm'⟩
    · rw [hus, setP_out _ _ (nk 64 (by decide)), s64 _ _ (by omega)] at h
      exact ⟨olds0 vs cs, us, rfl, hul, toldU us hul hlow (mkRec us h (fun j a b => (hu j a).trans ((setP_out _ _ (nk j (by omega))).trans (k64 _ _ j a)))), by omega,
        .inl (hbk us hul fun j hj hk => (hu j (npg j hj).2.2).trans ((setP_out _ _ (by rw [kU_fst]; exact hk)).trans ((k64 _ _ j (npg j hj).2.2).trans (k1 j (npg j hj).1 (npg j hj).2.1))))⟩
    · rw [hus] at h
      obtain rfl : u = 0 := by have := List.mem_singleton.1 hm'; exact congrArg Prod.snd this
      refine ⟨[], us, rfl, hul, told0 us hul hlow h, by decide, .inr ⟨?_, fun j hj => (hu j (npg j hj).2.2).trans (setP_cong hnU (by rw [setP_len]; omega) ((k64 _ _ j (npg j hj).2.2).trans (k1 j (npg j hj).1 (npg j hj).2.1)))⟩⟩
      have e5 : (phsA [ph65 (undW (olds0 vs cs)), ph64 (sealN cs.length), phU cs]).length = (phA (ph65 (undW (olds0 vs cs)))).length + ((phA (ph64 (sealN cs.length))).length + (phA (phU cs)).length) := by unfold phsA; simp only [List.map_cons, List.map_nil, List.flatten_cons, List.flatten_nil, List.append_nil, List.length_append]
      rw [e5, ph65_len hWl, ph64_len, phA_len] at g1
      unfold first; omega
  | p1 :: p2 :: p3 :: p4 :: l', e, g1, g2, hi =>
    exfalso
    have := congrArg List.length e
    simp only [comP, List.length_cons, List.length_nil, List.length_append] at this
    omega
theorem com_full (hS : SupIm (wbytes vs) s) (hws : σ.ws = mkC vs) (ha : σ.armed = false) (h64 : vs[64]? = some 0) (h1 : 1 ≤ cs.length) (h8 : cs.length ≤ 8) (hp : PlK s.2.1 cs cs.length) :
    ∃ us, (actsE σ (phsA (comP vs cs))).1 = 0 ∧ (actsE σ (phsA (comP vs cs))).2.ws = mkC us ∧ (actsE σ (phsA (comP vs cs))).2.armed = false ∧ (actsE σ (phsA (comP vs cs))).2.steps = σ.steps + (phsA (comP vs cs)).length ∧ us.length = vs.length ∧ Told (wbytes us) s [] ∧ ∀ j, ¬ pg j → us[j]? = (setP vs (kU cs))[j]? := by
  have hn := hS.wl
  have hWl : (undW (olds0 vs cs)).length = 2 * cs.length := by rw [undW_len, olds0_len]
  obtain ⟨a1, a2, a3, a4⟩ := phs_full (comP vs cs) hws ha (comP_ok h8 hp hn.2.2.2.2.2 (by omega))
  have e : setPs vs (comP vs cs) = setP (setP (setP (setP vs (ph65 (undW (olds0 vs cs))).1) (ph64 (sealN cs.length)).1) (kU cs)) (ph64 0).1 := rfl
  rw [e] at a2
  have k64 : ∀ (x : BitVec 64) (v : List (BitVec 64)) (j : Nat), j ≠ 64 → (setP v (ph64 x).1)[j]? = v[j]? := fun x v j h => setP_out _ _ (by simp only [ph64, List.map_cons, List.map_nil, List.mem_singleton]; exact h)
  have k1 : ∀ j, j ≠ 65 → ¬ (72 ≤ j ∧ j < 88) → (setP vs (ph65 (undW (olds0 vs cs))).1)[j]? = vs[j]? := fun j a b => setP_out _ _ (p65_out (by omega) ⟨a, b⟩)
  have nk : ∀ j, j < 256 → j ∉ (kU cs).map Prod.fst := fun j hj h => by rw [kU_fst] at h; have := (ks_pg (pl_all hp) h).2; omega
  have hul : (setP (setP (setP (setP vs (ph65 (undW (olds0 vs cs))).1) (ph64 (sealN cs.length)).1) (kU cs)) (ph64 0).1).length = vs.length := by rw [setP_len, setP_len, setP_len, setP_len]
  refine ⟨_, a1, a2, a3, a4, hul, told_0 (hS.w hul fun j hj => ?_) (setP_in _ _ (by simp [ph64]) (List.mem_singleton.2 rfl) (by rw [setP_len, setP_len, setP_len]; omega)), fun j hj => ?_⟩
  · rw [k64 _ _ j (by omega), setP_out _ _ (nk j (by omega)), k64 _ _ j (by omega), k1 j (by omega) (by omega)]
  · have : j ≠ 65 ∧ ¬ (72 ≤ j ∧ j < 88) ∧ j ≠ 64 := by unfold pg at hj; omega
    rw [k64 _ _ j this.2.2]
    exact setP_cong (pl_nodup hp) (by rw [setP_len, setP_len]) ((k64 _ _ j this.2.2).trans (k1 j this.1 this.2.1))
theorem com_go' (hS : SupIm (wbytes vs) s) {τ : Ds} (hv : viewWs τ.ws = vs) (hws : σ.ws = mkC vs) (hrec : recW τ (ksOf cs) = recW σ (ksOf cs)) (h64 : vs[64]? = some 0) (h1 : 1 ≤ cs.length) (h8 : cs.length ≤ 8) (hp : PlK s.2.1 cs cs.length) (hl : τ.ws.length = vs.length) :
    comE τ s.1 s.2.1 s.2.2 (4 + s.2.1 / 8) cs = actsE τ (phsA (comP vs cs)) := by
  have hn := hS.wl
  have ht := (told_0 hS h64).un
  rw [com_go ⟨hS.g, rfl, by rw [hl]; omega⟩ (by omega) hp (by rw [hv]; exact ht), com_ph, hrec, rec_undW hws hp hn.2.2.2.2.2]
end
end Go.Proofs.YtfchinibjhcejaaGreatDoor
namespace Go.Proofs.YtfchinibjhcejaaGreatDoor
open Go Go.Wk
end Go.Proofs.YtfchinibjhcejaaGreatDoor
namespace Go.Proofs.YtfchinibjhcejaaGreatDoor
open Go Go.Wk
structure Clean (l : List UInt8) (s : Int × Int × Int) : Prop where
  sup : SupIm l s
  z : wdA l 512 = 0
theorem clean_img {s : Int × Int × Int} (hg : GoodSup s.1 s.2.1 s.2.2) (W : List (Int × BitVec 64)) : Clean (imgE s false (inT W) []) s := ⟨img_sup hg _ _, img_0 hg (inT_all W)⟩
section
variable {l : List UInt8} {s : Int × Int × Int} {L : List (Int × BitVec 64)}
theorem Clean.nums (h : Clean l s) : 24 ≤ s.1 ∧ s.1 ≤ 1024 ∧ 8 ≤ s.2.1 ∧ s.2.1 ≤ 256 ∧ l.length = 512 * s.1.toNat ∧ 2048 + 64 * s.2.1 ≤ (l.length : Int) := by
  have hg := h.sup.g
  unfold GoodSup at hg
  have hl := h.sup.len
  omega
theorem Clean.words (h : Clean l s) : wbytes (wds l) = l := wds_bytes (by have := h.nums; omega)
theorem Clean.wlen (h : Clean l s) : (wds l).length = 64 * s.1.toNat := by rw [wds_len]; have := h.nums; omega
theorem Clean.sw (h : Clean l s) : SupIm (wbytes (wds l)) s := by rw [h.words]; exact h.sup
theorem Clean.w64 (h : Clean l s) : (wds l)[64]? = some 0 := by
  have hn := h.nums
  have := wordsL_at (l := l) (m := l.length / 8) (j := 64) (by omega)
  rw [show 8 * 64 = 512 from rfl, h.z] at this
  exact this
theorem commit_arm (h : Clean l s) (h1 : 1 ≤ L.length) (h8 : L.length ≤ 8) (hp : PlK s.2.1 L L.length) (m : Nat) : comE (armD (loadD l) m) s.1 s.2.1 s.2.2 (4 + s.2.1 / 8) L = if (phsA (comP (wds l) L)).length ≤ m then (0, armD (actsE (loadD l) (phsA (comP (wds l) L))).2 (m - (phsA (comP (wds l) L)).length)) else (13, armD (actsE (loadD l) ((phsA (comP (wds l) L)).take m)).2 0) := by
  have hn := h.nums
  have hw := h.wlen
  rw [com_go' h.sw (τ := armD (loadD l) m) (σ := loadD l) (by show viewWs (loadD l).ws = _; rw [wds_load, mkC_view]) (wds_load l) rfl h.w64 h1 h8 hp (by show (loadD l).ws.length = _; rw [wds_load, mkC_length])]
  refine actsE_arm _ _ _ rfl fun a ha => ?_
  obtain ⟨A, hA, ha⟩ := List.mem_flatten.1 ha
  obtain ⟨p, hpm, rfl⟩ := List.mem_map.1 hA
  rw [wds_load, mkC_length]
  exact (comP_ok (s := s) h8 hp (by rw [hw]; omega) (by omega) p hpm).ac a ha
theorem Clean.lb (h : Clean l s) (hp : PlK s.2.1 L L.length) : ∀ q ∈ L, 0 ≤ q.1 ∧ q.1.toNat + 8 ≤ l.length := fun q hq => by
  have := pl_all hp q hq
  have hn := h.nums
  unfold TW at this; omega
end
end Go.Proofs.YtfchinibjhcejaaGreatDoor
namespace Go.Proofs.YtfchinibjhcejaaGreatDoor
open Go Go.Wk
def Whl (X : List UInt8) (s : Int × Int × Int) : Prop := ∃ U : List (Int × BitVec 64), Told X s U ∧ U.length ≤ 8
theorem Whl.e {X : List UInt8} {s : Int × Int × Int} (h : Whl X s) : pndE X = 0 := by obtain ⟨U, h, _⟩ := h; exact h.pnd.1
theorem Whl.ol {X : List UInt8} {s : Int × Int × Int} (h : Whl X s) : (ovR X).length = X.length := by obtain ⟨U, h, _⟩ := h; exact h.olen
theorem page_w {us vs : List (BitVec 64)} (h : ∀ j, pg j → us[j]? = vs[j]?) : page (wbytes us) = page (wbytes vs) := by
  unfold page
  apply List.ext_getElem?
  intro i
  rw [List.getElem?_take, List.getElem?_take]
  split
  · rw [List.getElem?_drop, List.getElem?_drop]
    have := wbytes_ext (j := (512 + i) / 8) (r := (512 + i) % 8) (h ((512 + i) / 8) (by unfold pg; omega)) (by omega)
    rwa [show 8 * ((512 + i) / 8) + (512 + i) % 8 = 512 + i by omega] at this
  · rfl
theorem bytes_of {us vs : List (BitVec 64)} (h : ∀ j, ¬ pg j → us[j]? = vs[j]?) {i : Nat} (hi : ¬ (512 ≤ i ∧ i < 1024)) : (wbytes us)[i]? = (wbytes vs)[i]? := by
  have := wbytes_ext (j := i / 8) (r := i % 8) (h (i / 8) (by unfold pg; omega)) (by omega)
  rwa [show 8 * (i / 8) + i % 8 = i by omega] at this
section
variable {l X : List UInt8} {s : Int × Int × Int} {L U : List (Int × BitVec 64)}
theorem again_1 (h : Clean l s) (h1 : 1 ≤ L.length) (h8 : L.length ≤ 8) (hp : PlK s.2.1 L L.length) (m : Nat) : ∃ g υ, comE (armD (loadD l) m) s.1 s.2.1 s.2.2 (4 + s.2.1 / 8) L = (g, υ) ∧ υ.ws.length = (loadD l).ws.length ∧ υ.steps ≤ 60 ∧ ∀ ch, Whl (wbytes (picked υ.ws (pkC υ.ws ch))) s ∧ (wbytes (picked υ.ws (pkC υ.ws ch))).length = l.length := by
  have hn := h.nums
  have hr := comE_rest (σ := armD (loadD l) m) (sp := s.1) (si := s.2.1) (sc := s.2.2) (sd := 4 + s.2.1 / 8) (cs := L)
  have hc := commit_arm h h1 h8 hp m
  by_cases hm : (phsA (comP (wds l) L)).length ≤ m
  · rw [if_pos hm] at hc
    rw [hc] at hr
    obtain ⟨us, a1, a2, a3, a4, a5, a6, a7⟩ := com_full h.sw (wds_load l) rfl h.w64 h1 h8 hp
    refine ⟨_, _, hc, hr.1, by have := hr.2; exact this, fun ch => ?_⟩
    rw [show (armD (actsE (loadD l) (phsA (comP (wds l) L))).2 (m - (phsA (comP (wds l) L)).length)).ws = mkC us from a2, mkC_pick]
    exact ⟨⟨[], a6, by decide⟩, by rw [wbytes_length, a5, h.wlen]; omega⟩
  · rw [if_neg hm] at hc
    rw [hc] at hr
    refine ⟨_, _, hc, hr.1, by have := hr.2; exact this, fun ch => ?_⟩
    obtain ⟨U, us, e, hl, ht, h8', _⟩ := com_cut h.sw (wds_load l) rfl h.w64 h1 h8 hp (m := m) (by omega) ch
    rw [show (armD (actsE (loadD l) ((phsA (comP (wds l) L)).take m)).2 0).ws = (actsE (loadD l) ((phsA (comP (wds l) L)).take m)).2.ws from rfl, e]
    exact ⟨⟨U, ht, h8'⟩, by rw [wbytes_length, hl, h.wlen]; omega⟩
theorem Told.w (h : Told X s U) : SupIm (wbytes (wds X)) s := by rw [h.words]; exact h.sup
theorem Told.un' (h : Told X s U) {us : List (BitVec 64)} (hl : us.length = (wds X).length) (hj : ∀ j, j < 8 → us[j]? = (wds X)[j]?) (hpg : ∀ j, pg j → us[j]? = (wds X)[j]?) : Told (wbytes us) s U :=
  ⟨h.w.w hl hj, by rw [page_w hpg, h.words]; exact h.un, h.pl⟩
theorem again_3 (h : Told X s U) (h8 : U.length ≤ 8) : ∃ n τ, rcvE (loadD X) = (n, 0, τ) ∧ τ.ws.length = (loadD X).ws.length ∧ τ.steps ≤ 60 ∧ rcvE τ = (0, 0, τ) ∧ dts τ.ws = [] ∧ Told (wbytes (viewWs τ.ws)) s [] ∧ (wbytes (viewWs τ.ws)).length = X.length ∧ ∀ i, ¬ (512 ≤ i ∧ i < 1024) → (wbytes (viewWs τ.ws))[i]? = (ovR X)[i]? := by
  have hn := h.nums
  have hwl := h.wlen
  have hr := rcvE_rest (σ := loadD X)
  have again : ∀ τ : Ds, Told (wbytes (viewWs τ.ws)) s [] → rcvE τ = (0, 0, τ) := fun τ ht => by
    unfold rcvE
    rw [if_pos (.inr ht.pnd.2), ht.pnd.1]
  have hv : wbytes (viewWs (loadD X).ws) = X := by rw [wds_load, mkC_view]; exact h.words
  by_cases hU : U = []
  · subst hU
    have h0 : Told (wbytes (viewWs (loadD X).ws)) s [] := by rw [hv]; exact h
    refine ⟨0, loadD X, again _ h0, rfl, by show 0 ≤ 60; decide, again _ h0, by rw [wds_load, mkC_dts], h0, by rw [hv], fun i _ => ?_⟩
    rw [hv, ovR_yes h.pnd.1, h.pnd.2]; rfl
  · have h1 : 1 ≤ U.length := List.length_pos_iff.2 hU
    obtain ⟨τ, e1, e2, e3, e4⟩ := rec_full (σ := loadD X) (vs := wds X) (i := s.2.1) (U := U) (wds_load X) rfl (by rw [h.words]; exact h.pnd.1) (by rw [h.words]; exact h.pnd.2) h1 h.pl (by rw [hwl]; omega) (by omega)
    rw [e1] at hr
    have hvw : viewWs τ.ws = setP (setP (wds X) (kU U)) [(64, 0)] := by rw [e2, mkC_view]
    have hl : (setP (setP (wds X) (kU U)) [(64, 0)]).length = (wds X).length := by rw [setP_len, setP_len]
    have k64 : ∀ j, j ≠ 64 → (setP (setP (wds X) (kU U)) [(64, 0)])[j]? = (setP (wds X) (kU U))[j]? := fun j hj => setP_out _ _ (by simp only [List.map_cons, List.map_nil, List.mem_singleton]; exact hj)
    have ht : Told (wbytes (viewWs τ.ws)) s [] := by
      rw [hvw]
      refine told_0 (h.w.w hl fun j hj => ?_) (setP_in _ _ (by simp) (List.mem_singleton.2 rfl) (by rw [setP_len, hwl]; omega))
      rw [k64 j (by omega), setP_out _ _ (fun hk => by have := kU_key (pl_all h.pl) hk; omega)]
    refine ⟨_, τ, e1, hr.1, by have := hr.2; exact this, again τ ht, by rw [e2, mkC_dts], ht, by rw [hvw, wbytes_length, hl, hwl]; omega, fun i hi => ?_⟩
    rw [hvw, h.over]
    exact bytes_of (fun j hj => k64 j (by unfold pg at hj; omega)) hi
theorem again_2 (h : Told X s U) (h8 : U.length ≤ 8) (m : Nat) : ∃ n f υ, rcvE (armD (loadD X) m) = (n, f, υ) ∧ (f = 0 ∨ f = 13) ∧ υ.ws.length = (loadD X).ws.length ∧ υ.steps ≤ 60 ∧ ∀ ch, Whl (wbytes (picked υ.ws (pkC υ.ws ch))) s ∧ (wbytes (picked υ.ws (pkC υ.ws ch))).length = X.length ∧ ∀ i, ¬ (512 ≤ i ∧ i < 1024) → (ovR (wbytes (picked υ.ws (pkC υ.ws ch))))[i]? = (ovR X)[i]? := by
  have hn := h.nums
  have hwl := h.wlen
  have hr := rcvE_rest (σ := armD (loadD X) m)
  have hv : wbytes (viewWs (armD (loadD X) m).ws) = X := by show wbytes (viewWs (loadD X).ws) = X; rw [wds_load, mkC_view]; exact h.words
  by_cases hU : U = []
  · subst hU
    have e : rcvE (armD (loadD X) m) = (0, 0, armD (loadD X) m) := by unfold rcvE; rw [hv, if_pos (.inr h.pnd.2), h.pnd.1]
    refine ⟨0, 0, _, e, .inl rfl, rfl, by show 0 ≤ 60; decide, fun ch => ?_⟩
    rw [show (armD (loadD X) m).ws = mkC (wds X) from wds_load X, mkC_pick, h.words]
    exact ⟨⟨[], h, by decide⟩, rfl, fun i _ => rfl⟩
  · have h1 : 1 ≤ U.length := List.length_pos_iff.2 hU
    have hok : ∀ p ∈ [phU U, ph64 0], PhOk (wds X).length p := fun p hpm => by
      rcases List.mem_cons.1 hpm with rfl | hpm
      · exact phU_ok h.pl (by rw [hwl]; omega)
      · rw [List.mem_singleton.1 hpm]; exact ph64_ok 0 (by rw [hwl]; omega)
    have hac : ∀ a ∈ phsA [phU U, ph64 0], AcOk (loadD X).ws.length a := fun a ha => by
      obtain ⟨A, hA, ha⟩ := List.mem_flatten.1 ha
      obtain ⟨p, hpm, rfl⟩ := List.mem_map.1 hA
      rw [wds_load, mkC_length]
      exact (hok p hpm).ac a ha
    have harm := actsE_arm (phsA [phU U, ph64 0]) (loadD X) m rfl hac
    have kout : ∀ j, j < 256 → j ∉ (kU U).map Prod.fst := fun j hj hk => by have := kU_key (pl_all h.pl) hk; omega
    have hpg' : ∀ j, pg j → (setP (wds X) (kU U))[j]? = (wds X)[j]? := fun j hj => setP_out _ _ (kout j (by unfold pg at hj; omega))
    have hlow' : ∀ j, j < 8 → (setP (wds X) (kU U))[j]? = (wds X)[j]? := fun j hj => setP_out _ _ (kout j (by omega))
    have hnd := pl_nodup h.pl
    have hkl : ∀ c ∈ kU U, c.1 < (wds X).length := fun c hc => (phU_ok h.pl (n := (wds X).length) (by rw [hwl]; omega)).lt c hc
    by_cases hm : (phsA [phU U, ph64 0]).length ≤ m
    · rw [if_pos hm] at harm
      obtain ⟨a1, a2, a3, a4⟩ := phs_full [phU U, ph64 0] (wds_load X) rfl hok
      have e : rcvE (armD (loadD X) m) = ((U.length : Int), 0, armD (actsE (loadD X) (phsA [phU U, ph64 0])).2 (m - (phsA [phU U, ph64 0]).length)) := by
        unfold rcvE
        rw [hv, h.pnd.1, h.pnd.2, if_neg (fun g => by rcases g with g | g; exact g rfl; exact hU g), recL_ph, harm, if_pos rfl]
      rw [e] at hr
      refine ⟨_, _, _, e, .inl rfl, hr.1, by have := hr.2; exact this, fun ch => ?_⟩
      obtain ⟨n, τ, _, _, _, _, _, ht, hl, hb⟩ := again_3 h h8
      have hw : (actsE (loadD X) (phsA [phU U, ph64 0])).2.ws = mkC (setP (setP (wds X) (kU U)) [(64, 0)]) := a2
      have hl' : (setP (setP (wds X) (kU U)) [(64, 0)]).length = (wds X).length := by rw [setP_len, setP_len]
      have k64 : ∀ j, j ≠ 64 → (setP (setP (wds X) (kU U)) [(64, 0)])[j]? = (setP (wds X) (kU U))[j]? := fun j hj => setP_out _ _ (by simp only [List.map_cons, List.map_nil, List.mem_singleton]; exact hj)
      have ht' : Told (wbytes (setP (setP (wds X) (kU U)) [(64, 0)])) s [] := told_0 (h.w.w hl' fun j hj => (k64 j (by omega)).trans (hlow' j hj)) (setP_in _ _ (by simp) (List.mem_singleton.2 rfl) (by rw [setP_len, hwl]; omega))
      rw [show (armD (actsE (loadD X) (phsA [phU U, ph64 0])).2 (m - (phsA [phU U, ph64 0]).length)).ws = _ from hw, mkC_pick]
      refine ⟨⟨[], ht', by decide⟩, by rw [wbytes_length, hl', hwl]; omega, fun i hi => ?_⟩
      rw [ht'.ov, h.over]
      exact bytes_of (fun j hj => k64 j (by unfold pg at hj; omega)) hi
    · rw [if_neg hm] at harm
      have e : rcvE (armD (loadD X) m) = (0, 13, armD (actsE (loadD X) ((phsA [phU U, ph64 0]).take m)).2 0) := by
        unfold rcvE
        rw [hv, h.pnd.1, h.pnd.2, if_neg (fun g => by rcases g with g | g; exact g rfl; exact hU g), recL_ph, harm, if_neg (show ¬ (13 : Int) = 0 by decide)]
      rw [e] at hr
      refine ⟨_, _, _, e, .inr rfl, hr.1, by have := hr.2; exact this, fun ch => ?_⟩
      rw [show (armD (actsE (loadD X) ((phsA [phU U, ph64 0]).take m)).2 0).ws = (actsE (loadD X) ((phsA [phU U, ph64 0]).take m)).2.ws from rfl]
      obtain ⟨l1, p, l2, ee, g1, g2, hi⟩ := phs_cut [phU U, ph64 0] (m := m) (wds_load X) rfl hok (by omega)
      have hlen : (actsE (loadD X) ((phsA [phU U, ph64 0]).take m)).2.ws.length = (wds X).length := by
        rw [(actsE_rest _ (loadD X) (fun a ha => hac a (List.mem_of_mem_take ha))).1, wds_load, mkC_length]
      generalize (actsE (loadD X) ((phsA [phU U, ph64 0]).take m)).2.ws = ws at *
      generalize hus : picked ws (pkC ws ch) = us
      have hul : us.length = (wds X).length := by rw [← hus, picked_length, hlen]
      have hxl : (wbytes us).length = X.length := by rw [wbytes_length, hul, hwl]; omega
      match l1, ee, hi with
      | [], ee, hi =>
        obtain rfl : phU U = p := (List.cons.inj ee).1
        have hi' : Inv (wds X) (kU U) ws := hi
        have hu : ∀ j, j ∉ (kU U).map Prod.fst → us[j]? = (wds X)[j]? := fun j hj => by rw [← hus]; exact inv_out hi' hlen hj
        have ht' : Told (wbytes us) s U := h.un' hul (fun j hj => hu j (kout j (by omega))) (fun j hj => hu j (kout j (by unfold pg at hj; omega)))
        refine ⟨⟨U, ht', h8⟩, hxl, fun i _ => ?_⟩
        have es : setP us (kU U) = setP (wds X) (kU U) := by
          apply List.ext_getElem?
          intro j
          by_cases hj : j ∈ (kU U).map Prod.fst
          · obtain ⟨⟨j', x⟩, hm', e'⟩ := List.mem_map.1 hj
            obtain rfl : j' = j := e'
            have := hkl _ hm'
            rw [setP_in _ us hnd hm' (by rw [hul]; exact this), setP_in _ _ hnd hm' this]
          · rw [setP_out _ us hj, setP_out _ _ hj, hu j hj]
        rw [ht'.ov, h.over, es]
      | [p1], ee, hi =>
        obtain ⟨e1, e2⟩ := List.cons.inj ee
        obtain rfl : phU U = p1 := e1
        obtain rfl : ph64 0 = p := (List.cons.inj e2).1
        have hi' : Inv (setP (wds X) (kU U)) (ph64 0).1 ws := hi
        have hu : ∀ j, j ≠ 64 → us[j]? = (setP (wds X) (kU U))[j]? := fun j hj => by rw [← hus]; exact inv_out hi' (by rw [setP_len]; exact hlen) (by simp only [ph64, List.map_cons, List.map_nil, List.mem_singleton]; exact hj)
        rcases inv_at (cs := ch) hi' (by rw [setP_len]; exact hlen) (j := 64) with h6 | ⟨u, h6, hm'⟩
        · rw [hus] at h6
          have eu : us = setP (wds X) (kU U) := List.ext_getElem? fun j => by
            by_cases hj : j = 64
            · subst hj; exact h6
            · exact hu j hj
          have ht' : Told (wbytes us) s U := h.un' hul (fun j hj => by rw [eu]; exact hlow' j hj) (fun j hj => by rw [eu]; exact hpg' j hj)
          refine ⟨⟨U, ht', h8⟩, hxl, fun i _ => ?_⟩
          rw [ht'.ov, h.over, setP_same _ _ (fun c hc => by rw [eu]; exact setP_in _ _ hnd hc (hkl c hc)), eu]
        · rw [hus] at h6
          obtain rfl : u = 0 := by have := List.mem_singleton.1 hm'; exact congrArg Prod.snd this
          have ht' : Told (wbytes us) s [] := told_0 (h.w.w hul fun j hj => (hu j (by omega)).trans (hlow' j hj)) h6
          refine ⟨⟨[], ht', by decide⟩, hxl, fun i hi => ?_⟩
          rw [ht'.ov, h.over]
          exact bytes_of (fun j hj => hu j (by unfold pg at hj; omega)) hi
      | p1 :: p2 :: l', ee, hi =>
        exfalso
        have := congrArg List.length ee
        simp only [List.length_cons, List.length_nil, List.length_append] at this
        omega
end
end Go.Proofs.YtfchinibjhcejaaGreatDoor
namespace Go.Proofs.YtfchinibjhcejaaGreatDoor
open Go Go.Wk
open Go.ChangeShapes Go.WideShapes Go.ChangeAt Go.RowKit
section
variable {H : Type} {enc : TypeId × Value → H} {P : Program} {W : World} {r : Reach} {base b0 : Nat} {held : Bool}
theorem all_of {p : Nat → Bool} {e : TypeId} : ∀ {ds : List (DataW H)} {i : Nat} {d : DataW H}, (DataW.weightsAll P e ds).all p = true → ds[i]? = some d → (DataW.weights P e d).all p = true
  | d' :: ds, 0, d, h, hd => by
    simp only [DataW.weightsAll, List.all_append, Bool.and_eq_true] at h
    obtain rfl : d' = d := by simpa using hd
    exact h.1
  | d' :: ds, i + 1, d, h, hd => by
    simp only [DataW.weightsAll, List.all_append, Bool.and_eq_true] at h
    exact all_of h.2 (by simpa using hd)
  | [], i, d, h, hd => by simp at hd
def Fl (enc : TypeId × Value → H) (P : Program) (W : World) (b0 : Nat) (held : Bool) (t : TypeId) (c : Value) : Prop :=
  ∃ fuel x, DataW.trod enc P W b0 (fun _ => true) held fuel t [c] = some x ∧ (DataW.weights P t x.1).all (· ≤ reachBytes) = true
theorem Fl.int {t : TypeId} {c : Value} (u : P.underlying t = some (.int .i64)) (h : Fl enc P W b0 held t c) : ∃ n, c = .int .i64 n ∧ Fits n := by
  obtain ⟨fuel, x, hf, _⟩ := h
  obtain ⟨n, g, _, w⟩ := DataW.trod_int u hf
  exact ⟨n, by simpa using g, has64 (by simpa [Lit.wf, IntKind.has] using w)⟩
theorem Fl.word {t : TypeId} {c : Value} (u : P.underlying t = some (.int .u64)) (h : Fl enc P W b0 held t c) : ∃ x, c = b64 x := by
  obtain ⟨fuel, x, hf, _⟩ := h
  obtain ⟨n, g, _, w⟩ := DataW.trod_int u hf
  obtain ⟨x, rfl⟩ := hasU64 (n := n) (by simpa [Lit.wf, IntKind.has] using w)
  exact ⟨x, by simpa using g⟩
theorem Fl.nums {t e : TypeId} {k : IntKind} {c : Value} (hu : P.underlying t = some (.slice e)) (he : P.underlying e = some (.int k)) (hc : P.cellsOf e = 1) (h : Fl enc P W b0 held t c) :
    ∃ zs : List Int, Rd W c 1 zs.length (zs.map (Value.int k)) ∧ zs.length * P.bytesOf e ≤ reachBytes ∧ ∀ z ∈ zs, (Lit.int k z).wf = true := by
  obtain ⟨fuel, x, hf, hw⟩ := h
  rcases open_ints hu he hc hf with ⟨h0, _⟩ | ⟨a, len, cap, zs, h0, _, hl, _, hz, hx, hcell, hwf⟩
  · obtain rfl : c = .slice none 0 0 := by simpa using h0
    exact ⟨[], Rd.nil W 1, by simp, by simp⟩
  · obtain rfl : c = .slice (some a) len cap := by simpa using h0
    simp only [if_true] at hz
    have hxe : x.1 = _ := congrArg Prod.fst hx
    have hdw : zs.length * P.bytesOf e ≤ reachBytes := by
      have hall := List.all_eq_true.1 hw
      rw [hxe] at hall
      unfold DataW.weights at hall
      rw [hu] at hall
      have := hall _ (List.mem_cons_self ..)
      simp only [decide_eq_true_eq, lits, List.length_map] at this
      rw [← List.length_append, List.take_append_drop] at this
      exact this
    have hln : (zs.take len).length = len := by rw [List.length_take]; omega
    have hsp : ∀ j, j < zs.length → a.spot = none := fun j hj => by
      have := World.cell?_spot (hcell 0 (by omega))
      simpa [Addr.add] using this
    refine ⟨zs.take len, ⟨some a, cap, by rw [hln], fun j u hj => ?_, by rw [List.length_map, Nat.mul_one], by omega, (fun h => by cases h), (fun hc0 a' ha => by cases ha; exact hsp 0 (by omega))⟩, Nat.le_trans (Nat.mul_le_mul_right _ (by omega)) hdw, fun z hm => hwf z (List.mem_of_mem_take hm)⟩
    rw [List.getElem?_map, List.getElem?_take] at hj
    split at hj
    · rename_i hlt
      have hjl : j < zs.length := by omega
      have hs := hsp j hjl
      obtain ⟨b, o, s⟩ := a
      have hs' : s = none := hs
      subst hs'
      refine ⟨b, o, rfl, ?_⟩
      have h1 := hcell j hjl
      rw [Addr.add_off] at h1
      rw [h1, ← hj, List.getElem?_eq_getElem hjl]
      simp [List.getD, hjl]
    · cases hj
theorem Fl.ints {t e : TypeId} {c : Value} (hu : P.underlying t = some (.slice e)) (he : P.underlying e = some (.int .i64)) (hc : P.cellsOf e = 1) (hby : P.bytesOf e = 8) (h : Fl enc P W b0 held t c) :
    ∃ L : List Int, RdI W c L ∧ L.length ≤ 17592186044416 := by
  obtain ⟨zs, h1, h2, _⟩ := Fl.nums hu he hc h
  rw [hby] at h2
  unfold reachBytes at h2
  exact ⟨zs, h1, by omega⟩
theorem Fl.bytes {t e : TypeId} {c : Value} (hu : P.underlying t = some (.slice e)) (he : P.underlying e = some (.int .u8)) (hc : P.cellsOf e = 1) (hby : P.bytesOf e = 1) (h : Fl enc P W b0 held t c) :
    ∃ L : List UInt8, RdB W c L ∧ L.length ≤ 140737488355328 := by
  obtain ⟨zs, h1, h2, h3⟩ := Fl.nums hu he hc h
  rw [hby] at h2
  unfold reachBytes at h2
  have he : zs.map (Value.int .u8) = (zs.map (fun z => UInt8.ofNat z.toNat)).map bv := by
    rw [List.map_map]
    refine List.map_congr_left fun z hz => ?_
    obtain ⟨q, rfl⟩ := hasU8 (n := z) (by simpa [Lit.wf, IntKind.has] using h3 z hz)
    simp [bv]
  refine ⟨zs.map (fun z => UInt8.ofNat z.toNat), ?_, by rw [List.length_map]; omega⟩
  unfold RdB
  rw [List.length_map, ← he]
  exact h1
theorem elems_of {t e : TypeId} {v : Value} {fuel n : Nat} {x : DataW H × List MemPlace} (hu : P.underlying t = some (.slice e)) (hc : P.cellsOf e = n)
    (hf : DataW.trod enc P W b0 (fun _ => true) held fuel t [v] = some x) (hw : (DataW.weights P t x.1).all (· ≤ reachBytes) = true) :
    v = .slice none 0 0 ∨ ∃ a len cap, v = .slice (some a) len cap ∧ len ≤ cap ∧ len * P.bytesOf e ≤ reachBytes ∧ ∀ i, i < len → ∃ cs fuel y, cs.length = n ∧ (∀ j, j < n → W.cell? ((a.add (i * n)).add j) = cs[j]?) ∧ DataW.trod enc P W b0 (fun _ => true) held fuel e cs = some y ∧ (DataW.weights P e y.1).all (· ≤ reachBytes) = true := by
  rcases DataW.trod_slice hu hf with ⟨h0, _⟩ | ⟨a, len, cap, elems, rest, m, _, h0, rfl, hb, hl, hm, hlen, hel, hsp, hns⟩
  · left; simpa using h0
  · right
    refine ⟨a, len, cap, by simpa using h0, hl, ?_, fun i hi => ?_⟩
    · have hall := List.all_eq_true.1 hw
      unfold DataW.weights at hall
      rw [hu] at hall
      have := hall _ (List.mem_cons_self ..)
      simp only [decide_eq_true_eq, List.length_map, hlen] at this
      exact Nat.le_trans (Nat.mul_le_mul_right _ (Nat.le_add_right _ _)) this
    · have h1 := hel i hi
      rw [hc, List.getElem?_eq_getElem (by omega), Option.bind_eq_some_iff] at h1
      obtain ⟨cs, h2, h3⟩ := h1
      have h4 := World.cells?_some h2
      refine ⟨cs, m, _, h4.2.1, h4.2.2, h3, ?_⟩
      · unfold DataW.weights at hw
        rw [hu] at hw
        simp only [List.all_cons, List.all_append, Bool.and_eq_true] at hw
        exact all_of (i := i) hw.2.1 (by rw [List.getElem?_map, List.getElem?_eq_getElem (show i < elems.length by omega)]; rfl)
end
structure OpT where
  kd : Int
  ad : Int
  n : Int
  x : BitVec 64
  sp : Int
  si : Int
  sc : Int
  sd : Int
  vC : Value
  C : List (Int × BitVec 64)
  vL : Value
  cs : List Int
  vB : Value
  lB : List UInt8
def opC (o : OpT) : List Value := [.int .i64 o.kd, .int .i64 o.ad, .int .i64 o.n, b64 o.x, .int .i64 o.sp, .int .i64 o.si, .int .i64 o.sc, .int .i64 o.sd, o.vC, o.vL, o.vB]
def oC (L : List OpT) : List Value := L.flatMap opC
def In64 (L : List (Int × BitVec 64)) : Prop := ∀ q ∈ L, -9223372036854775808 ≤ q.1 ∧ q.1 ≤ 9223372036854775807
structure OpOk (w : World) (o : OpT) : Prop where
  c : RdP w o.vC o.C
  l : RdI w o.vL o.cs
  b : RdB w o.vB o.lB
  cb : In64 o.C
  cl : o.C.length ≤ 8796093022208
  ll : o.cs.length ≤ 17592186044416
  bl : o.lB.length ≤ 140737488355328
  n : -9223372036854775808 ≤ o.n ∧ o.n ≤ 9223372036854775807
  a : -9223372036854775808 ≤ o.ad ∧ o.ad ≤ 9223372036854775807
  p : -9223372036854775808 ≤ o.sp ∧ o.sp ≤ 9223372036854775807
def RdO (w : World) (v : Value) (L : List OpT) : Prop := Rd w v 11 L.length (oC L) ∧ ∀ o ∈ L, OpOk w o
theorem OpOk.mod {w w' : World} {o : OpT} (h : OpOk w o) (hm : Mod (fun _ => False) w w') : OpOk w' o := by obtain ⟨a, b, c, d, e, f, g, i, j, k⟩ := h; exact ⟨a.mod hm, b.mod hm, c.mod hm, d, e, f, g, i, j, k⟩
theorem RdO.mod {w w' : World} {v : Value} {L : List OpT} (h : RdO w v L) (hm : Mod (fun _ => False) w w') : RdO w' v L := ⟨h.1.mod hm, fun o ho => (h.2 o ho).mod hm⟩
section
variable {H : Type} {enc : TypeId × Value → H} {P : Program} {W : World} {base b0 : Nat} {held : Bool}
def FlL (enc : TypeId × Value → H) (P : Program) (W : World) (b0 : Nat) (held : Bool) (t : TypeId) (cs : List Value) : Prop :=
  ∃ fuel x, DataW.trod enc P W b0 (fun _ => true) held fuel t cs = some x ∧ (DataW.weights P t x.1).all (· ≤ reachBytes) = true
theorem flL_field {t u : TypeId} {fs : Array Field} {cs : List Value} {i o n : Nat} {f : Field} (ht : P.underlying t = some (.struct fs)) (h : FlL enc P W b0 held t cs) (hfi : fs[i]? = some f) (ho : f.offset = o) (hu : f.type = u) (hn : P.cellsOf u = n) : FlL enc P W b0 held u ((cs.drop o).take n) := by
  obtain ⟨fuel, x, hf, hw⟩ := h
  obtain ⟨xs, m, rfl, hx, _, hsz, hfl⟩ := DataW.trod_struct ht hf
  have h1 := hfl i f hfi
  rw [ho, hu, hn] at h1
  have hil : i < fs.size := (Array.getElem?_eq_some_iff.1 hfi).1
  have hxl : i < xs.length := by rw [hsz]; exact hil
  rw [List.getElem?_eq_getElem hxl] at h1
  refine ⟨m, _, h1, ?_⟩
  have hxe : x.1 = _ := congrArg Prod.fst hx
  rw [hxe] at hw
  unfold DataW.weights at hw
  rw [ht] at hw
  refine each_of hw (i := i) ?_ (by rw [List.getElem?_map, List.getElem?_eq_getElem hxl]; rfl)
  rw [List.getElem?_map, Array.getElem?_toList, hfi]
  exact congrArg some hu
theorem slice_spot {t e : TypeId} {fuel n len cap : Nat} {a : Addr} {x : DataW H × List MemPlace} (hu : P.underlying t = some (.slice e)) (hc : P.cellsOf e = n) (hn : 0 < n) (hf : DataW.trod enc P W b0 (fun _ => true) held fuel t [.slice (some a) len cap] = some x) (h0 : 0 < cap) : a.spot = none := by
  rcases DataW.trod_slice hu hf with ⟨h, _⟩ | ⟨a', len', cap', elems, rest, m, _, h1, rfl, hb, hl, hm, hlen, hel, hsp, hns⟩
  · simp at h
  · simp only [List.cons.injEq, Value.slice.injEq, Option.some.injEq, and_true] at h1
    obtain ⟨rfl, rfl, rfl⟩ := h1
    have key : ∀ y, (W.cells? b0 (a.add (0 * P.cellsOf e)) (P.cellsOf e)).bind (DataW.trod enc P W b0 (fun _ => true) held m e) = some y → a.spot = none := fun y hy => by
      rw [hc, Option.bind_eq_some_iff] at hy
      obtain ⟨cs, h2, _⟩ := hy
      have h4 := World.cells?_some h2
      have h5 := h4.2.2 0 hn
      rw [List.getElem?_eq_getElem (by rw [h4.2.1]; exact hn)] at h5
      have := World.cell?_spot h5
      simpa [Addr.add] using this
    rcases Nat.eq_zero_or_pos len with h | h
    · obtain ⟨g1, g2⟩ := hsp rfl
      have g3 := g2 0 (by omega)
      obtain ⟨y, hy⟩ : ∃ y, rest[0]? = some y := ⟨_, List.getElem?_eq_getElem (by omega)⟩
      rw [hy, h, Nat.zero_add] at g3
      exact key _ g3
    · have g3 := hel 0 h
      rw [List.getElem?_eq_getElem (by omega)] at g3
      exact key _ g3
end
section
variable {H : Type} {enc : TypeId × Value → H} {P : Program} {W : World} {base b0 : Nat} {held : Bool}
theorem Fl.pairs {t e ti tu : TypeId} {fs : Array Field} {f0 f1 : Field} {c : Value} (hu : P.underlying t = some (.slice e)) (he : P.underlying e = some (.struct fs)) (hc : P.cellsOf e = 2) (hby : P.bytesOf e = 16)
    (hf0 : fs[0]? = some f0) (hf1 : fs[1]? = some f1) (o0 : f0.offset = 0) (o1 : f1.offset = 1) (t0 : f0.type = ti) (t1 : f1.type = tu) (ui : P.underlying ti = some (.int .i64)) (uu : P.underlying tu = some (.int .u64)) (ci : P.cellsOf ti = 1) (cu : P.cellsOf tu = 1) (h : Fl enc P W b0 held t c) :
    ∃ L : List (Int × BitVec 64), RdP W c L ∧ L.length ≤ 8796093022208 ∧ In64 L := by
  obtain ⟨fuel, x, hf, hw⟩ := h
  rcases elems_of (n := 2) hu hc hf hw with rfl | ⟨a, len, cap, rfl, hlc, hb, hel⟩
  · exact ⟨[], Rd.nil W 2, by simp, fun q hq => by cases hq⟩
  · rw [hby] at hb
    unfold reachBytes at hb
    obtain ⟨L, hLl, hL⟩ := choose_list' (Q := fun j (z : Int × BitVec 64) => W.cell? ((a.add (j * 2)).add 0) = some (.int .i64 z.1) ∧ W.cell? ((a.add (j * 2)).add 1) = some (b64 z.2) ∧ (-9223372036854775808 ≤ z.1 ∧ z.1 ≤ 9223372036854775807)) len (fun j hj => by
      obtain ⟨cs, fu, y, h1, h2, h3, h4⟩ := hel j hj
      obtain ⟨c0, c1, rfl⟩ : ∃ c0 c1, cs = [c0, c1] := by match cs, h1 with | [c0, c1], _ => exact ⟨c0, c1, rfl⟩
      obtain ⟨n0, rfl, hn0⟩ := Fl.int ui (flL_field he ⟨fu, y, h3, h4⟩ hf0 o0 t0 ci)
      obtain ⟨n1, rfl⟩ := Fl.word uu (flL_field he ⟨fu, y, h3, h4⟩ hf1 o1 t1 cu)
      exact ⟨(n0, n1), h2 0 (by decide), h2 1 (by decide), hn0⟩)
    subst hLl
    have hsp : 0 < cap → a.spot = none := slice_spot hu hc (by decide) hf
    refine ⟨L, ⟨some a, cap, rfl, fun j u hj => ?_, prC_length L, hlc, (fun h => by cases h), (fun hc0 a' ha => by cases ha; exact hsp hc0)⟩, by omega, fun q hq => by obtain ⟨i, hi⟩ := List.getElem?_of_mem hq; exact (hL i q hi).2.2⟩
    have hjl : j < L.length * 2 := by rw [← prC_length L]; exact (List.getElem?_eq_some_iff.1 hj).1
    have hq : L[j / 2]? = some (L[j / 2]'(by omega)) := List.getElem?_eq_getElem _
    have hz := hL (j / 2) _ hq
    have hp := prC_at hq
    have hs := hsp (by omega)
    obtain ⟨b, o, s⟩ := a
    have hs' : s = none := hs
    subst hs'
    refine ⟨b, o, rfl, ?_⟩
    rcases Nat.mod_two_eq_zero_or_one j with hm | hm
    · have e : j / 2 * 2 = j := by omega
      rw [e] at hp hz
      rw [hj] at hp
      rw [Option.some.inj hp.1]
      have := hz.1
      rwa [Addr.add_off, Addr.add_off, Nat.add_zero] at this
    · have e : j / 2 * 2 + 1 = j := by omega
      rw [e] at hp
      rw [hj] at hp
      rw [Option.some.inj hp.2]
      have := hz.2.1
      rwa [Addr.add_off, Addr.add_off, Nat.add_assoc, e] at this
end
section
variable {H : Type} {enc : TypeId × Value → H} {W : World} {base b0 : Nat} {held : Bool}
theorem fl_pairs_c {c : Value} (h : Fl enc Tryz.prog W b0 held 24 c) : ∃ L : List (Int × BitVec 64), RdP W c L ∧ L.length ≤ 8796093022208 ∧ In64 L :=
  Fl.pairs (ti := 3) (tu := 43) Tryz.underlying24 Tryz.underlying56 (by kernel_rfl) (by kernel_rfl) rfl rfl rfl rfl rfl rfl Tryz.underlying3 Tryz.underlying43 (by kernel_rfl) (by kernel_rfl) h
end
section
variable {H : Type} {enc : TypeId × Value → H} {W : World} {base b0 : Nat} {held : Bool}
set_option maxRecDepth 100000 in
theorem arg_start {r : Reach} {v : Value} {d : DataW H} {ps : List MemPlace} (h : Value.okWide Tryz.prog W r base 27 v) (hd : DataW.Trod enc Tryz.prog W b0 (fun _ => true) held 27 v d ps) (hw : (DataW.weights Tryz.prog 27 d).all (· ≤ reachBytes) = true) :
    ∃ (p i c : Int) (bare : Bool) (vW vU : Value) (Ws Us : List (Int × BitVec 64)), v = .agg #[.int .i64 p, .int .i64 i, .int .i64 c, .bool bare, vW, vU] ∧ RdP W vW Ws ∧ Ws.length ≤ 8796093022208 ∧ RdP W vU Us ∧ Us.length ≤ 8796093022208 ∧ In64 Ws ∧ In64 Us ∧ (-9223372036854775808 ≤ p ∧ p ≤ 9223372036854775807) := by
  obtain ⟨fuel, hf⟩ := hd
  have U := Tryz.underlying27
  obtain ⟨cs, rfl, hl, _⟩ := arg_struct U h
  rw [show Tryz.prog.cellsOf 27 = 6 by kernel_rfl] at hl
  have hcs : (Value.agg cs.toArray).cells.toList = cs := by simp [Value.cells]
  rw [hcs] at hf
  obtain ⟨c0, c1, c2, c3, c4, c5, rfl⟩ : ∃ c0 c1 c2 c3 c4 c5, cs = [c0, c1, c2, c3, c4, c5] := by
    match cs, hl with
    | [c0, c1, c2, c3, c4, c5], _ => exact ⟨c0, c1, c2, c3, c4, c5, rfl⟩
  have hr : FlL enc Tryz.prog W b0 held 27 [c0, c1, c2, c3, c4, c5] := ⟨fuel, _, hf, hw⟩
  have hs := flL_field (i := 0) (o := 0) (n := 3) (u := 23) U hr rfl rfl rfl (by kernel_rfl)
  have V := Tryz.underlying23
  obtain ⟨p, rfl, hp⟩ := Fl.int Tryz.underlying3 (flL_field (i := 0) (o := 0) (n := 1) (u := 3) V hs rfl rfl rfl (by kernel_rfl))
  obtain ⟨i, rfl, _⟩ := Fl.int Tryz.underlying3 (flL_field (i := 1) (o := 1) (n := 1) (u := 3) V hs rfl rfl rfl (by kernel_rfl))
  obtain ⟨c, rfl, _⟩ := Fl.int Tryz.underlying3 (flL_field (i := 2) (o := 2) (n := 1) (u := 3) V hs rfl rfl rfl (by kernel_rfl))
  obtain ⟨bare, rfl⟩ : ∃ bare, c3 = .bool bare := by
    obtain ⟨f3, y3, h3, _⟩ := flL_field (i := 1) (o := 3) (n := 1) (u := 4) U hr rfl rfl rfl (by kernel_rfl)
    obtain ⟨b, g, _⟩ := DataW.trod_bool Tryz.underlying4 h3
    exact ⟨b, by simpa using g⟩
  obtain ⟨lW, hW, hWl, hWb⟩ := fl_pairs_c (flL_field (i := 2) (o := 4) (n := 1) (u := 24) U hr rfl rfl rfl (by kernel_rfl))
  obtain ⟨lU, hU, hUl, hUb⟩ := Fl.pairs (ti := 3) (tu := 43) Tryz.underlying25 Tryz.underlying45 (by kernel_rfl) (by kernel_rfl) rfl rfl rfl rfl rfl rfl Tryz.underlying3 Tryz.underlying43 (by kernel_rfl) (by kernel_rfl) (flL_field (i := 3) (o := 5) (n := 1) (u := 25) U hr rfl rfl rfl (by kernel_rfl))
  exact ⟨p, i, c, bare, c4, c5, lW, lU, rfl, hW, hWl, hU, hUl, hWb, hUb, hp⟩
end
end Go.Proofs.YtfchinibjhcejaaGreatDoor
namespace Go.Proofs.YtfchinibjhcejaaGreatDoor
open Go Go.Wk
open Go.ChangeShapes Go.WideShapes Go.ChangeAt Go.RowKit
structure CutT where
  lf : Int
  vL : Value
  cs : List Int
def cuC (o : CutT) : List Value := [.int .i64 o.lf, o.vL]
def ccC (L : List CutT) : List Value := L.flatMap cuC
theorem ccC_length (L : List CutT) : (ccC L).length = L.length * 2 := by induction L with
  | nil => rfl
  | cons c a ih => simp only [ccC, List.flatMap_cons, List.length_append, List.length_cons] at *; rw [ih]; simp [cuC]; omega
theorem ccC_at : ∀ {L : List CutT} {j i : Nat} {o : CutT} {u : Value}, L[j]? = some o → (cuC o)[i]? = some u → (ccC L)[j * 2 + i]? = some u
  | d :: L, 0, i, o, u, h, hu => by
    obtain rfl : d = o := by simpa using h
    have hi : i < 2 := (List.getElem?_eq_some_iff.1 hu).1
    show (cuC d ++ ccC L)[0 * 2 + i]? = some u
    rw [Nat.zero_mul, Nat.zero_add, List.getElem?_append_left hi]; exact hu
  | d :: L, j + 1, i, o, u, h, hu => by
    have := ccC_at (L := L) (j := j) (by simpa using h) hu
    show (cuC d ++ ccC L)[(j + 1) * 2 + i]? = some u
    rw [List.getElem?_append_right (by show 2 ≤ _; omega), show (cuC d).length = 2 from rfl, show (j + 1) * 2 + i - 2 = j * 2 + i by omega]; exact this
structure CutOk (w : World) (o : CutT) : Prop where
  l : RdI w o.vL o.cs
  ll : o.cs.length ≤ 17592186044416
def RdCu (w : World) (v : Value) (L : List CutT) : Prop := Rd w v 2 L.length (ccC L) ∧ ∀ o ∈ L, CutOk w o
theorem RdCu.mod {w w' : World} {v : Value} {L : List CutT} (h : RdCu w v L) (hm : Mod (fun _ => False) w w') : RdCu w' v L := ⟨h.1.mod hm, fun o ho => by obtain ⟨a, b⟩ := h.2 o ho; exact ⟨a.mod hm, b⟩⟩
theorem ccC_split : ∀ {L : List CutT} {j : Nat} {u : Value}, (ccC L)[j]? = some u → ∃ i k o, L[i]? = some o ∧ j = i * 2 + k ∧ k < 2 ∧ (cuC o)[k]? = some u
  | [], j, u, h => by simp [ccC] at h
  | c :: L, j, u, h => by
    have hh : (cuC c ++ ccC L)[j]? = some u := h
    rcases Nat.lt_or_ge j 2 with hj | hj
    · rw [List.getElem?_append_left (by exact hj)] at hh
      exact ⟨0, j, c, rfl, by omega, hj, hh⟩
    · rw [List.getElem?_append_right (by exact hj)] at hh
      obtain ⟨i, k, o, h1, h2, h3, h4⟩ := ccC_split hh
      exact ⟨i + 1, k, o, by simpa using h1, by have : (cuC c).length = 2 := rfl; omega, h3, h4⟩
section
variable {H : Type} {enc : TypeId × Value → H} {W : World} {base b0 : Nat} {held : Bool}
set_option maxRecDepth 100000 in
theorem cu_elem {cs : List Value} {fuel : Nat} {y : DataW H × List MemPlace} (hl : cs.length = 2) (hf : DataW.trod enc Tryz.prog W b0 (fun _ => true) held fuel 65 cs = some y) (hw : (DataW.weights Tryz.prog 65 y.1).all (· ≤ reachBytes) = true) :
    ∃ o : CutT, CutOk W o ∧ cs = cuC o := by
  obtain ⟨c0, c1, rfl⟩ : ∃ c0 c1, cs = [c0, c1] := by
    match cs, hl with
    | [c0, c1], _ => exact ⟨c0, c1, rfl⟩
  have hr : FlL enc Tryz.prog W b0 held 65 [c0, c1] := ⟨fuel, y, hf, hw⟩
  have U := Tryz.underlying65
  obtain ⟨lf, rfl, _⟩ := Fl.int Tryz.underlying3 (flL_field (i := 0) (o := 0) (n := 1) (u := 3) U hr rfl rfl rfl (by kernel_rfl))
  obtain ⟨lI, hI, hIl⟩ := Fl.ints Tryz.underlying63 Tryz.underlying3 (by kernel_rfl) (by kernel_rfl) (flL_field (i := 1) (o := 1) (n := 1) (u := 63) U hr rfl rfl rfl (by kernel_rfl))
  exact ⟨⟨lf, c1, lI⟩, ⟨hI, hIl⟩, rfl⟩
set_option maxRecDepth 100000 in
theorem arg_cuts {r : Reach} {v : Value} {d : DataW H} {ps : List MemPlace} (h : Value.okWide Tryz.prog W r base 75 v) (hd : DataW.Trod enc Tryz.prog W b0 (fun _ => true) held 75 v d ps) (hw : (DataW.weights Tryz.prog 75 d).all (· ≤ reachBytes) = true) :
    ∃ L : List CutT, RdCu W v L ∧ L.length ≤ 140737488355328 := by
  obtain ⟨fuel, hf⟩ := hd
  have hok := arg_slice Tryz.underlying75 h
  have hv : v.cells.toList = [v] := by rcases hok with rfl | ⟨_, _, _, _, rfl, _⟩ <;> rfl
  rw [hv] at hf
  rcases elems_of (n := 2) Tryz.underlying75 (by kernel_rfl) hf hw with rfl | ⟨a, len, cap, rfl, hlc, hby, hel⟩
  · exact ⟨[], ⟨Rd.nil W 2, by simp⟩, by simp⟩
  · have hby' : Tryz.prog.bytesOf 65 = 32 := by kernel_rfl
    rw [hby'] at hby
    unfold reachBytes at hby
    obtain ⟨b, o, rfl⟩ : ∃ b o, a = ⟨b, o, none⟩ := by
      rcases hok with h0 | ⟨b, o, n, c, h0, _⟩
      · cases h0
      · simp only [Value.slice.injEq, Option.some.injEq] at h0
        exact ⟨b, o, h0.1⟩
    obtain ⟨L, hLl, hL⟩ := choose_list' (Q := fun j (z : CutT) => CutOk W z ∧ ∀ k u, (cuC z)[k]? = some u → W.cell? (((⟨b, o, none⟩ : Addr).add (j * 2)).add k) = some u) len (fun j hj => by
      obtain ⟨cs, fu, y, h1, h2, h3, h4⟩ := hel j hj
      obtain ⟨z, hz, rfl⟩ := cu_elem h1 h3 h4
      exact ⟨z, hz, fun k u hk => by rw [h2 k (List.getElem?_eq_some_iff.1 hk).1]; exact hk⟩)
    subst hLl
    refine ⟨L, ⟨⟨some ⟨b, o, none⟩, cap, rfl, fun j u hj => ?_, ccC_length L, hlc, (fun h => by cases h), (fun _ a ha => by cases ha; rfl)⟩, fun z hm => ?_⟩, by omega⟩
    · obtain ⟨i, k, z, hi, rfl, hk, hu⟩ := ccC_split hj
      have := (hL i z hi).2 k u hu
      rw [Addr.add_off, Addr.add_off, Nat.add_assoc] at this
      exact ⟨b, o, rfl, this⟩
    · obtain ⟨i, hi⟩ := List.getElem?_of_mem hm
      exact (hL i z hi).1
end
end Go.Proofs.YtfchinibjhcejaaGreatDoor
namespace Go.Proofs.YtfchinibjhcejaaGreatDoor
open Go Go.Wk
theorem lawAgain_p (p i c : Int) (bare : Bool) (vW vU : Value) (W U : List (Int × BitVec 64)) (vT : Value) (T : List (Int × BitVec 64)) (v : Value) (CS : List CutT) (w : World) (ht : Tab w) (hvW : RdP w vW W) (hWl : W.length ≤ 8796093022208) (hpb : -9223372036854775808 ≤ p ∧ p ≤ 9223372036854775807) (hvT : RdP w vT T) (hT : T.length ≤ 140737488355328) (hv : RdCu w v CS) (hCl : CS.length ≤ 140737488355328) :
    PureC Tryz.prog 10 [.agg #[.int .i64 p, .int .i64 i, .int .i64 c, .bool bare, vW, vU], vT, v] (.bool true) w := by
 refine enter0 Tryz.func10 rfl Tryz.ntmps10 rfl ?_
 obtain ⟨L, hL⟩ : ∃ L, L = chL (supS p i c).2.1 T := ⟨_, rfl⟩
 have hgS := supS_good p i c
 have hg2 := hgS
 unfold GoodSup at hg2
 have hsi : 0 < (supS p i c).2.1 ∧ (supS p i c).2.1 ≤ 1000 := by omega
 obtain ⟨hL1, hL8, hLp⟩ : 1 ≤ L.length ∧ L.length ≤ 8 ∧ PlK (supS p i c).2.1 L L.length := by rw [hL]; exact chL_ok hsi.1 T
 obtain ⟨l, hl⟩ : ∃ l, l = (imgE (supS p i c) false (inT W) []) := ⟨_, rfl⟩
 have hcl : Clean l (supS p i c) := by rw [hl]; exact clean_img hgS W
 have hnm := hcl.nums
 have hLb := hcl.lb hLp
 have hls : (loadD l).steps = 0 := rfl
 have hlw : (loadD l).ws.length ≤ 65536 := by rw [wds_load, mkC_length, hcl.wlen]; omega
 have hsz : isSizeB (l.length : Int) = true := by unfold isSizeB; rw [decide_eq_true_eq]; omega
 simp only [envOf]
 refine tR (At.box rfl rfl rfl (fun b1 => (tA rfl rfl (tE (tR (tV (Val.loadAll (i := 0) Tryz.isAgg27 Tryz.sizeOf27 rfl rfl rfl) rfl (At.callNT (g := (fun v => .tuple #[v, .agg #[.int .i64 (supS p i c).1, .int .i64 (supS p i c).2.1, .int .i64 (supS p i c).2.2, .int .i64 (4 + (supS p i c).2.1 / 8)]])) (fun w hw => clean_n p i c bare vW vU W U w (hvW.mod hw.mod) hWl hpb) Tryz.call11 rfl rfl (fun v2 => ?_))))))))
 rw [← hl]
 refine tM rfl rfl (tV (Val.extract rfl rfl) rfl (tV (Val.extract rfl rfl) rfl (At.alloc Tryz.zeroValue31 rfl rfl (fun b3 => (tA rfl rfl (At.storeAll (i := 0) Tryz.sizeOf31 rfl rfl rfl (by simp [Value.oneCell']) rfl rfl ?_))))))
 simp only [sc0, scS]
 refine tE (tR (tM rfl rfl (tV (Val.loadAll (i := 0) Tryz.isAgg31 Tryz.sizeOf31 rfl rfl rfl) rfl (At.callN (fun w hw => changesJ_n vT T (supS p i c).1 (supS p i c).2.1 (supS p i c).2.2 (4 + (supS p i c).2.1 / 8) w (hvT.mod hw.mod) hT hsi) Tryz.call21 rfl rfl (fun v4 => ?_)))))
 rw [← hL]
 refine tA rfl rfl (tE (tR (tM rfl rfl (At.callNB (fun w hw => device_n _ l 0 w (row_rd (hw.row (i := 2) rfl) (by decide)) hsz (by omega)) Tryz.call22 rfl rfl (fun p5 y6 => ?_)))))
 rw [show devE l 0 = armD (loadD l) 0 from rfl]
 refine tM rfl rfl (tV (Val.extract rfl rfl) rfl (tV (Val.extract rfl rfl) rfl (tA rfl rfl (tA rfl rfl (tE ?_)))))
 refine At.join (σ := Nat × Gh × Nat) (fun s => True) (fun s => [(2, v), (7, v2), (8, .pointer (some ⟨b3, 0, none⟩)), (9, v4), (10, .pointer (some ⟨s.1, 0, none⟩)), (11, .bool true)]) (fun s => [Dev s.1 s.2.1 (armD (loadD l) s.2.2), rowR v4 56 2 ((L).length) (prC (L)), blk b3 31 ([.int .i64 (supS p i c).1, .int .i64 (supS p i c).2.1, .int .i64 (supS p i c).2.2, .int .i64 (4 + (supS p i c).2.1 / 8)]), rowR v2 5 1 ((l).length) ((l).map bv), blk b1 27 ([.int .i64 p, .int .i64 i, .int .i64 c, .bool bare, vW, vU])]) ?_ ?_
 ·refine tR (tM rfl rfl (tV (Val.lenRd hv.1 Tryz.underlying75 rfl) rfl (tV (Val.bin rfl rfl rfl) rfl (tE ?_))))
  refine At.cond rfl (fun h7 => ?_) (fun h7 => ?_)
  ·try simp only [hasB, isSizeB, sB] at h7
   obtain ⟨o0, ho0⟩ : ∃ o, CS[0]? = some o := ⟨_, List.getElem?_eq_getElem (by omega)⟩
   have hop0 := hv.2 o0 (List.mem_of_getElem? ho0)
   refine At.region (tM rfl rfl (tM rfl rfl (At.idxRd hv.1 Tryz.underlying75 Tryz.sizeOf65 rfl rfl (by omega) (by omega) rfl rfl (fun bo oo hoc => ?_))))
   have hc0 := hoc 0 _ (ccC_at ho0 (i := 0) rfl)
   have hc1 := hoc 1 _ (ccC_at ho0 (i := 1) rfl)
   rw [Nat.add_zero] at hc0
   refine tV (Val.field oo rfl fo_65_0 rfl) rfl (tV (Val.loadOld Tryz.isAgg3 rfl hc0 (fun h => h)) rfl (At.callP (fun w hw => restJ_p o0.lf 70 w (by omega)) Tryz.call31 rfl rfl ?_))
   obtain ⟨m, hm⟩ : ∃ m : Nat, o0.lf % 70 = (m : Int) := ⟨(o0.lf % 70).toNat, by have := Int.emod_nonneg o0.lf (show (70 : Int) ≠ 0 by decide); omega⟩
   have hmb : m < 70 := by have := Int.emod_lt_of_pos o0.lf (show (0 : Int) < 70 by decide); omega
   rw [hm]
   refine At.callNB (fun w hw => device_n _ l (m : Int) w (row_rd (hw.row (i := 3) rfl) (by decide)) hsz (by omega)) Tryz.call22 rfl rfl (fun p8 y9 => ?_)
   rw [show devE l (m : Int) = armD (loadD l) m from (if_neg (by omega)).trans (by rw [Int.toNat_natCast])]
   refine tM rfl rfl (tV (Val.extract rfl rfl) rfl (tV (Val.extract rfl rfl) rfl (tA rfl rfl (tA rfl rfl (At.nil (At.drop 1 ?_))))))
   simp only [ec0, ecS]
   refine At.thenN ?_
   exact At.meets (p8, y9, m) trivial (Sub.cons rfl (Sub.cons rfl (Sub.cons rfl (Sub.cons rfl (Sub.cons rfl (Sub.cons rfl Sub.nil)))))) (List.Perm.refl _)
  ·try simp only [hasB, isSizeB, sB] at h7
   refine At.skipC (At.thenN ?_)
   exact At.meets (p5, y6, 0) trivial (Sub.cons rfl (Sub.cons rfl (Sub.cons rfl (Sub.cons rfl (Sub.cons rfl (Sub.cons rfl Sub.nil)))))) (List.Perm.refl _)
 ·intro s hs
  clear hs
  obtain ⟨pd, yd, m⟩ := s
  dsimp only
  obtain ⟨g, υ, hcu, hul, hus, hus1⟩ := again_1 hcl hL1 hL8 hLp m
  refine At.seq (tR (tM rfl rfl (tV (Val.not rfl) rfl (tE (At.condF rfl (At.skipC (At.thenN (tR (tM rfl rfl (tV (Val.loadAll (i := 2) Tryz.isAgg31 Tryz.sizeOf31 rfl rfl rfl) rfl (tM rfl rfl (At.callD 0 rfl (fun w hw hr => commit_d _ _ _ (supS p i c).1 (supS p i c).2.1 (supS p i c).2.2 (4 + (supS p i c).2.1 / 8) _ L w (ht.mod hw.mod) (Rep.off0 hw ht (fun h => h) (i := 0) rfl) (row_rd (hw.row (i := 1) rfl) (by decide)) (Rep.offRow (i := 1) (j := 0) hw rfl rfl (by decide)) (fun q hq => by have := hLb q hq; omega) (by omega) (by show (loadD l).steps + 200 ≤ _; omega) hr) Tryz.call23 rfl rfl (fun y10 => ?_)))))))))))))
  simp only [sc0, scS]
  rw [hcu]
  refine tE (tR (tM rfl rfl (At.callRK 0 rfl (fun w hw hr => crash_k _ _ _ (.slice none 0 0) [] w (Rd.nil w 1) (fun hne => absurd rfl hne) hr) Tryz.call28 rfl rfl (fun v11 => (tA rfl rfl (At.nil ?_))))))
  obtain ⟨X, hXX⟩ : ∃ X, X = wbytes (picked υ.ws (pkC υ.ws [])) := ⟨_, rfl⟩
  obtain ⟨hwh, hxl⟩ := hus1 []
  rw [← hXX] at hwh hxl
  rw [← hXX]
  refine At.thenN ?_
  refine At.join (σ := Value × List UInt8) (fun s => Whl s.2 (supS p i c) ∧ s.2.length = l.length) (fun s => [(2, v), (7, v2), (12, s.1)]) (fun s => [brow 5 s.1 s.2, Dev pd y10 (υ), rowR v4 56 2 ((L).length) (prC (L)), blk b3 31 ([.int .i64 (supS p i c).1, .int .i64 (supS p i c).2.1, .int .i64 (supS p i c).2.2, .int .i64 (4 + (supS p i c).2.1 / 8)]), rowR v2 5 1 ((l).length) ((l).map bv), blk b1 27 ([.int .i64 p, .int .i64 i, .int .i64 c, .bool bare, vW, vU])]) ?_ ?_
  ·refine tR (tM rfl rfl (tV (Val.lenRd hv.1 Tryz.underlying75 rfl) rfl (tV (Val.bin rfl rfl rfl) rfl (tE ?_))))
   refine At.cond rfl (fun h12 => ?_) (fun h12 => ?_)
   ·try simp only [hasB, isSizeB, sB] at h12
    obtain ⟨o0, ho0⟩ : ∃ o, CS[0]? = some o := ⟨_, List.getElem?_eq_getElem (by omega)⟩
    have hop0 := hv.2 o0 (List.mem_of_getElem? ho0)
    refine At.region (tM rfl rfl (tM rfl rfl (At.idxRd hv.1 Tryz.underlying75 Tryz.sizeOf65 rfl rfl (by omega) (by omega) rfl rfl (fun bo oo hoc => ?_))))
    have hc0 := hoc 0 _ (ccC_at ho0 (i := 0) rfl)
    have hc1 := hoc 1 _ (ccC_at ho0 (i := 1) rfl)
    rw [Nat.add_zero] at hc0
    refine tV (Val.field (oo + 1) rfl fo_65_1 rfl) rfl (tV (Val.loadOld Tryz.isAgg63 rfl hc1 (fun h => h)) rfl (At.callRK 1 rfl (fun w hw hr => crash_k _ _ _ o0.vL o0.cs w (hop0.l.mod hw.mod) (hop0.l.off (hw.newFoot (List.mem_of_getElem? (i := 1) rfl))) hr) Tryz.call28 rfl rfl (fun v13 => (tA rfl rfl (At.nil (At.drop 1 ?_))))))
    simp only [ec0, ecS]
    obtain ⟨X2, hXX2⟩ : ∃ X, X = wbytes (picked υ.ws (pkC υ.ws o0.cs)) := ⟨_, rfl⟩
    obtain ⟨hwh, hxl⟩ := hus1 o0.cs
    rw [← hXX2] at hwh hxl
    rw [← hXX2]
    refine At.thenN ?_
    exact At.meets (v13, X2) ⟨hwh, hxl⟩ (Sub.cons rfl (Sub.cons rfl (Sub.cons rfl Sub.nil))) (List.Perm.refl _)
   ·try simp only [hasB, isSizeB, sB] at h12
    refine At.skipC (At.thenN ?_)
    exact At.meets (v11, X) ⟨hwh, hxl⟩ (Sub.cons rfl (Sub.cons rfl (Sub.cons rfl Sub.nil))) (List.Perm.refl _)
  ·intro s hs
   obtain ⟨vx, X⟩ := s
   dsimp only at hs ⊢
   obtain ⟨hwh, hxl⟩ := hs
   refine At.seq (At.drop 1 ?_)
   simp only [ec0, ecS]
   refine At.drop 1 ?_
   simp only [ec0, ecS]
   refine At.drop 1 ?_
   simp only [ec0, ecS]
   refine At.drop 2 ?_
   simp only [ec0, ecS]
   refine At.region (tM rfl rfl (At.callNT (g := (fun v => .tuple #[v, .int .i64 (pndE X)])) (fun w hw => overlay_n _ X w (ht.mod hw.mod) (row_rd (hw.row (i := 0) rfl) (by decide)) (by omega)) Tryz.call16 rfl rfl (fun v14 => ?_)))
   rw [hwh.e]
   obtain ⟨Wt, hWt⟩ : ∃ Wt, Wt = ovR X := ⟨_, rfl⟩
   rw [← hWt]
   have hwtl : Wt.length = l.length := by rw [hWt, hwh.ol, hxl]
   have hwb : ∀ i, ¬ (512 ≤ i ∧ i < 1024) → (ovR X)[i]? = Wt[i]? := fun i _ => by rw [hWt]
   refine tM rfl rfl (tV (Val.extract rfl rfl) rfl (tV (Val.extract rfl rfl) rfl (tA rfl rfl (tA rfl rfl (tE (At.seq (tR (tM rfl rfl (tV (Val.bin rfl rfl rfl) rfl (tM rfl rfl (At.yes rfl rfl (tM rfl rfl (At.yes rfl rfl (tV (Val.lenRow (i := 0) Tryz.underlying29 rfl rfl) rfl (At.yes rfl rfl (tM rfl rfl (At.yes rfl rfl (tV (Val.lenRow (i := 2) Tryz.underlying29 rfl rfl) rfl (At.yes rfl rfl (tV (Val.bin rfl rfl rfl) rfl ?_))))))))))))))))))))
   rw [show ((Wt.length : Nat) : Int) = (l.length : Nat) from by rw [hwtl], bne_self_eq_false]
   refine tV (Val.pickF rfl rfl) rfl (tE (At.condF rfl (At.skipC (At.thenN (At.seq (tR (tA rfl rfl (tE (At.block ?_)))))))))
   skip
   refine At.loop (σ := Nat × Value × List UInt8) (fun s => 1 ≤ s.1 ∧ (s.1 ≤ CS.length ∨ s.1 = 1) ∧ s.1 ≤ 40 ∧ Whl s.2.2 (supS p i c) ∧ s.2.2.length = l.length ∧ ∀ i, ¬ (512 ≤ i ∧ i < 1024) → (ovR s.2.2)[i]? = Wt[i]?) (fun s => [(2, v), (12, s.2.1), (13, v14), (15, .int .i64 (s.1 : Int))]) (fun s => [rowR v14 5 1 ((Wt).length) ((Wt).map bv), brow 5 s.2.1 s.2.2, rowR v2 5 1 ((l).length) ((l).map bv)]) (fun s => CS.length - s.1) (1, vx, X) ⟨Nat.le_refl _, .inr rfl, (show 1 ≤ 40 by decide), hwh, hxl, hwb⟩ (Sub.cons rfl (Sub.cons rfl (Sub.cons rfl (Sub.cons rfl Sub.nil)))) (List.Perm.refl _) ?_
   intro s hs
   obtain ⟨k, vx, X⟩ := s
   dsimp only at hs ⊢
   obtain ⟨hk1, hk2, hk3, hwh, hxl, hwb⟩ := hs
   refine At.seq (tR (tM rfl rfl (tM rfl rfl (tV (Val.lenRd hv.1 Tryz.underlying75 rfl) rfl (tV (Val.bin rfl rfl rfl) rfl (At.weaken [(2, _), (12, _), (13, _), (15, _), (90, _)] (Sub.cons rfl (Sub.cons rfl (Sub.cons rfl (Sub.cons rfl (Sub.cons rfl Sub.nil))))) ?_))))))
   refine At.boolMeet 4 94 (decide (k < CS.length ∧ k < 40)) ?_ ?_
   ·simp only [List.take_succ_cons, List.take_zero]
    refine tM rfl rfl ?_
    refine At.split (t := 91) rfl (fun h15 => ?_) (fun h15 => ?_)
    ·try simp only [hasB, isSizeB, sB] at h15
     refine At.yes rfl rfl (tM rfl rfl (At.yes rfl rfl (tV (Val.bin rfl rfl rfl) rfl (tV (Val.pickT rfl rfl) rfl (At.nil ?_)))))
     exact At.boolEnd rfl (by apply Bool.eq_iff_iff.2; (simp only [decide_eq_true_eq, Bool.false_eq_true, false_iff, true_iff, gt_iff_lt, ge_iff_le]) <;> omega) (by repeat (first | exact Sub.nil | refine Sub.cons rfl ?_))
    ·try simp only [hasB, isSizeB, sB] at h15
     refine At.no rfl rfl rfl rfl (At.no rfl rfl rfl rfl (tV (Val.pickF rfl rfl) rfl (At.nil ?_)))
     exact At.boolEnd rfl (by apply Bool.eq_iff_iff.2; (simp only [decide_eq_true_eq, Bool.false_eq_true, false_iff, true_iff, gt_iff_lt, ge_iff_le]) <;> omega) (by repeat (first | exact Sub.nil | refine Sub.cons rfl ?_))
   ·simp only [List.drop_succ_cons, List.drop_zero]
    refine tE ?_
    refine At.cond rfl (fun h16 => ?_) (fun h16 => ?_)
    ·try simp only [hasB, isSizeB, sB] at h16
     obtain ⟨o, ho⟩ : ∃ o, CS[k]? = some o := ⟨_, List.getElem?_eq_getElem (by omega)⟩
     have hop := hv.2 o (List.mem_of_getElem? ho)
     obtain ⟨U1, htd, hU8⟩ := hwh
     have hszX : isSizeB (X.length : Int) = true := by rw [hxl]; exact hsz
     refine At.skipC (At.thenN (At.seq (At.block (tR (tM rfl rfl (tM rfl rfl (tM rfl rfl (At.idxRd hv.1 Tryz.underlying75 Tryz.sizeOf65 rfl rfl (by omega) (by omega) rfl rfl (fun bo oo hoc => ?_)))))))))
     rw [Int.toNat_natCast] at hoc
     have hc0 := hoc 0 _ (ccC_at ho (i := 0) rfl)
     have hc1 := hoc 1 _ (ccC_at ho (i := 1) rfl)
     rw [Nat.add_zero] at hc0
     refine tV (Val.field oo rfl fo_65_0 rfl) rfl (tV (Val.loadOld Tryz.isAgg3 rfl hc0 (fun h => h)) rfl (At.callP (fun w hw => restJ_p o.lf 24 w (by omega)) Tryz.call31 rfl rfl ?_))
     obtain ⟨m, hm⟩ : ∃ m : Nat, o.lf % 24 = (m : Int) := ⟨(o.lf % 24).toNat, by have := Int.emod_nonneg o.lf (show (24 : Int) ≠ 0 by decide); omega⟩
     have hmb : m < 24 := by have := Int.emod_lt_of_pos o.lf (show (0 : Int) < 24 by decide); omega
     rw [hm]
     refine At.callNB (fun w hw => device_n _ X (m : Int) w (row_rd (hw.row (i := 1) rfl) (by decide)) hszX (by omega)) Tryz.call22 rfl rfl (fun p17 y18 => ?_)
     rw [show devE X (m : Int) = armD (loadD X) m from (if_neg (by omega)).trans (by rw [Int.toNat_natCast])]
     refine tM rfl rfl (tV (Val.extract rfl rfl) rfl (tV (Val.extract rfl rfl) rfl (tA rfl rfl (tA rfl rfl (tE (At.seq (tR (tM rfl rfl (tV (Val.not rfl) rfl (tE (At.condF rfl (At.skipC (At.thenN (At.seq ?_))))))))))))))
     obtain ⟨n1, f1, υ1, hrv, hf1, hul1, hus1', hcr1⟩ := again_2 htd hU8 m
     refine At.region (tM rfl rfl ?_)
     refine At.callD 0 rfl (fun w hw hr => recover_d _ _ _ w (ht.mod hw.mod) (Rep.off0 hw ht (fun h => h) (i := 0) rfl) (by show 0 + 200 ≤ _; decide) hr) Tryz.call25 rfl rfl (fun y19 => ?_)
     simp only [sc0, scS]
     rw [hrv]
     refine tM rfl rfl (tV (Val.extract rfl rfl) rfl (tV (Val.extract rfl rfl) rfl (tA rfl rfl (tA rfl rfl (tE (At.seq (tR (tM rfl rfl (tV (Val.bin rfl rfl rfl) rfl (tM rfl rfl ?_))))))))))
     refine At.split (t := 117) rfl (fun h20 => ?_) (fun h20 => ?_)
     ·try simp only [hasB, isSizeB, sB] at h20
      have hf0 : ¬ f1 = 0 := h20
      refine At.yes rfl rfl (tM rfl rfl (At.yes rfl rfl (tV (Val.bin rfl rfl rfl) rfl ?_)))
      rw [show (f1 != 13) = false from by rcases hf1 with e | e; exact absurd e hf0; rw [e]; rfl]
      refine tV (Val.pickT rfl rfl) rfl (tE (At.condF rfl (At.skipC (At.thenN (At.region (tM rfl rfl (tM rfl rfl (tM rfl rfl (At.idxRd hv.1 Tryz.underlying75 Tryz.sizeOf65 rfl rfl (by omega) (by omega) rfl rfl (fun bo oo hoc => ?_))))))))))
      rw [Int.toNat_natCast] at hoc
      have hc0 := hoc 0 _ (ccC_at ho (i := 0) rfl)
      have hc1 := hoc 1 _ (ccC_at ho (i := 1) rfl)
      rw [Nat.add_zero] at hc0
      refine tV (Val.field (oo + 1) rfl fo_65_1 rfl) rfl (tV (Val.loadOld Tryz.isAgg63 rfl hc1 (fun h => h)) rfl (At.callRK 0 rfl (fun w hw hr => crash_k _ _ _ o.vL o.cs w (hop.l.mod hw.mod) (hop.l.off (hw.newFoot (List.mem_of_getElem? (i := 0) rfl))) hr) Tryz.call28 rfl rfl (fun v21 => (tA rfl rfl (At.nil (At.drop 1 ?_))))))
      simp only [ec0, ecS]
      refine At.drop 2 ?_
      simp only [ec0, ecS]
      obtain ⟨X1, hXX1⟩ : ∃ X, X = wbytes (picked υ1.ws (pkC υ1.ws o.cs)) := ⟨_, rfl⟩
      obtain ⟨hwh1, hxl1, hwb1⟩ := hcr1 o.cs
      rw [← hXX1] at hwh1 hxl1 hwb1
      rw [← hXX1]
      refine At.blkN (At.thenN (At.region (tM rfl rfl ?_)))
      first | refine tV (Val.addI rfl rfl (by omega) (by omega)) rfl ?_ | refine tV (Val.bin rfl rfl rfl) rfl ?_
      refine tA rfl rfl (tE ?_)
      exact At.again (k + 1, v21, X1) ⟨(show 1 ≤ k + 1 by omega), .inl (show k + 1 ≤ _ by omega), (show k + 1 ≤ 40 by omega), hwh1, hxl1.trans hxl, fun i hi => (hwb1 i hi).trans (hwb i hi)⟩ (by dsimp only; omega) (Sub.cons rfl (Sub.cons rfl (Sub.cons rfl (Sub.cons (congrArg (fun z => some (Value.int IntKind.i64 z)) (by omega)) Sub.nil)))) (List.Perm.swap ..)
     ·try simp only [hasB, isSizeB, sB] at h20
      refine At.no rfl rfl rfl rfl (At.no rfl rfl rfl rfl (tV (Val.pickF rfl rfl) rfl (tE (At.condF rfl (At.skipC (At.thenN (At.region (tM rfl rfl (tM rfl rfl (tM rfl rfl (At.idxRd hv.1 Tryz.underlying75 Tryz.sizeOf65 rfl rfl (by omega) (by omega) rfl rfl (fun bo oo hoc => ?_))))))))))))
      rw [Int.toNat_natCast] at hoc
      have hc0 := hoc 0 _ (ccC_at ho (i := 0) rfl)
      have hc1 := hoc 1 _ (ccC_at ho (i := 1) rfl)
      rw [Nat.add_zero] at hc0
      refine tV (Val.field (oo + 1) rfl fo_65_1 rfl) rfl (tV (Val.loadOld Tryz.isAgg63 rfl hc1 (fun h => h)) rfl (At.callRK 0 rfl (fun w hw hr => crash_k _ _ _ o.vL o.cs w (hop.l.mod hw.mod) (hop.l.off (hw.newFoot (List.mem_of_getElem? (i := 0) rfl))) hr) Tryz.call28 rfl rfl (fun v22 => (tA rfl rfl (At.nil (At.drop 1 ?_))))))
      simp only [ec0, ecS]
      refine At.drop 2 ?_
      simp only [ec0, ecS]
      obtain ⟨X1, hXX1⟩ : ∃ X, X = wbytes (picked υ1.ws (pkC υ1.ws o.cs)) := ⟨_, rfl⟩
      obtain ⟨hwh1, hxl1, hwb1⟩ := hcr1 o.cs
      rw [← hXX1] at hwh1 hxl1 hwb1
      rw [← hXX1]
      refine At.blkN (At.thenN (At.region (tM rfl rfl ?_)))
      first | refine tV (Val.addI rfl rfl (by omega) (by omega)) rfl ?_ | refine tV (Val.bin rfl rfl rfl) rfl ?_
      refine tA rfl rfl (tE ?_)
      exact At.again (k + 1, v22, X1) ⟨(show 1 ≤ k + 1 by omega), .inl (show k + 1 ≤ _ by omega), (show k + 1 ≤ 40 by omega), hwh1, hxl1.trans hxl, fun i hi => (hwb1 i hi).trans (hwb i hi)⟩ (by dsimp only; omega) (Sub.cons rfl (Sub.cons rfl (Sub.cons rfl (Sub.cons (congrArg (fun z => some (Value.int IntKind.i64 z)) (by omega)) Sub.nil)))) (List.Perm.swap ..)
    ·try simp only [hasB, isSizeB, sB] at h16
     refine At.exitC (At.thenX (At.thenX (At.blkX (At.thenN (At.seq ?_)))))
     have hszX : isSizeB (X.length : Int) = true := by rw [hxl]; exact hsz
     obtain ⟨U1, htd, hU8⟩ := hwh
     obtain ⟨n2, τ, hr2, htl, hts, hr3, htd2, htd3, hvl, hvb⟩ := again_3 htd hU8
     refine At.region (tM rfl rfl (At.callNB (fun w hw => device_n _ X (-1) w (row_rd (hw.row (i := 1) rfl) (by decide)) hszX (by omega)) Tryz.call22 rfl rfl (fun p23 y24 => ?_)))
     rw [show devE X (-1) = loadD X from rfl]
     refine tM rfl rfl (tV (Val.extract rfl rfl) rfl (tV (Val.extract rfl rfl) rfl (tA rfl rfl (tA rfl rfl (tE (At.seq (tR (tM rfl rfl (tV (Val.not rfl) rfl (tE (At.condF rfl (At.skipC (At.thenN (tR (tM rfl rfl ?_)))))))))))))))
     refine At.callD 0 rfl (fun w hw hr => recover_d _ _ _ w (ht.mod hw.mod) (Rep.off0 hw ht (fun h => h) (i := 0) rfl) (by show 0 + 200 ≤ _; decide) hr) Tryz.call25 rfl rfl (fun y25 => ?_)
     simp only [sc0, scS]
     rw [hr2]
     refine tM rfl rfl (tV (Val.extract rfl rfl) rfl (tV (Val.extract rfl rfl) rfl (tA rfl rfl (tA rfl rfl (tE (tR (tM rfl rfl (At.callK 0 rfl (fun w hw hr => steps_k _ _ _ w hr) Tryz.call24 rfl rfl (tA rfl rfl (tE (tR (tM rfl rfl ?_))))))))))))
     refine At.callD 0 rfl (fun w hw hr => recover_d _ _ _ w (ht.mod hw.mod) (Rep.off0 hw ht (fun h => h) (i := 0) rfl) (by show τ.steps + 200 ≤ _; omega) hr) Tryz.call25 rfl rfl (fun y26 => ?_)
     simp only [sc0, scS]
     rw [hr3]
     refine tM rfl rfl (tV (Val.extract rfl rfl) rfl (tV (Val.extract rfl rfl) rfl (tA rfl rfl (tA rfl rfl (tE (tR (tM rfl rfl (At.callRK 0 rfl (fun w hw hr => view_k _ _ _ w hr) Tryz.call26 rfl rfl (fun v27 => (At.callNT (g := (fun v => .tuple #[v, .int .i64 (pndE (wbytes (viewWs τ.ws)))])) (fun w hw => pending_n _ (wbytes (viewWs τ.ws)) w (ht.mod hw.mod) (row_rd (hw.row (i := 0) rfl) (by decide)) (by omega)) Tryz.call15 rfl rfl (fun v28 => ?_)))))))))))
     rw [htd3.pnd.1, htd3.pnd.2]
     refine tM rfl rfl (tV (Val.extract rfl rfl) rfl (tV (Val.extract rfl rfl) rfl (tA rfl rfl (tA rfl rfl (tE (At.seq (tR (tM rfl rfl (tV (Val.bin rfl rfl rfl) rfl (tM rfl rfl (At.yes rfl rfl (tM rfl rfl (At.yes rfl rfl (tV (Val.bin rfl rfl rfl) rfl (tV (Val.pickF rfl rfl) rfl (tM rfl rfl (At.yes rfl rfl (tM rfl rfl (At.yes rfl rfl (tV (Val.bin rfl rfl rfl) rfl (tV (Val.pickF rfl rfl) rfl (tM rfl rfl (At.yes rfl rfl (tM rfl rfl (At.yes rfl rfl (tV (Val.bin rfl rfl rfl) rfl (tV (Val.pickF rfl rfl) rfl (tM rfl rfl (At.yes rfl rfl (tM rfl rfl (At.yes rfl rfl (tV (Val.lenRow (i := 0) Tryz.underlying25 rfl rfl) rfl (At.yes rfl rfl (tV (Val.bin rfl rfl rfl) rfl (tV (Val.pickF rfl rfl) rfl (tM rfl rfl (At.yes rfl rfl (tM rfl rfl (At.yes rfl rfl ?_)))))))))))))))))))))))))))))))))))))))
     refine At.callK 2 rfl (fun w hw hr => steps_k _ _ _ w hr) Tryz.call24 rfl rfl (At.yes rfl rfl (tM rfl rfl (At.yes rfl rfl (tV (Val.bin rfl rfl rfl) rfl ?_))))
     rw [bne_self_eq_false]
     refine tV (Val.pickF rfl rfl) rfl (tM rfl rfl (At.yes rfl rfl (tM rfl rfl (At.yes rfl rfl (At.callDB 2 rfl (fun w hw hr => doubts_k _ _ _ w hr) Tryz.call30 rfl rfl (fun v29 Q30 hQ31 => (At.yes rfl rfl (tV (Val.lenDb (i := 0) rfl Tryz.underlying68 rfl) rfl (At.yes rfl rfl (tV (Val.bin rfl rfl rfl) rfl ?_))))))))))
     rw [show ((Q30.length : Nat) : Int) = 0 from by have h9 := congrArg List.length hQ31; rw [List.length_map, htd2] at h9; simp only [List.length_nil] at h9; omega]
     refine tV (Val.pickF rfl rfl) rfl (tE (At.condF rfl (At.skipC (At.thenN (tR (tM rfl rfl (At.callRK 3 rfl (fun w hw hr => view_k _ _ _ w hr) Tryz.call26 rfl rfl (fun v32 => (tA rfl rfl (At.nil (At.drop 1 ?_)))))))))))
     simp only [ec0, ecS]
     refine At.drop 1 ?_
     simp only [ec0, ecS]
     refine At.drop 1 ?_
     simp only [ec0, ecS]
     refine At.drop 1 ?_
     simp only [ec0, ecS]
     refine At.drop 2 ?_
     simp only [ec0, ecS]
     refine At.drop 2 ?_
     simp only [ec0, ecS]
     refine At.thenN (At.seq (tR (tA rfl rfl (tE (At.block ?_)))))
     skip
     refine At.loop (σ := Nat) (fun j => j ≤ l.length) (fun j => [(13, v14), (28, v32), (29, .int .i64 (j : Int))]) (fun j => [rowR v32 5 1 ((wbytes (viewWs τ.ws)).length) ((wbytes (viewWs τ.ws)).map bv), rowR v14 5 1 ((Wt).length) ((Wt).map bv)]) (fun j => l.length - j) 0 (Nat.zero_le _) (Sub.cons rfl (Sub.cons rfl (Sub.cons rfl Sub.nil))) (List.Perm.refl _) ?_
     intro j hj
     refine At.seq (tR (tM rfl rfl (tM rfl rfl (tV (Val.lenRow (i := 0) Tryz.underlying29 rfl rfl) rfl (tV (Val.bin rfl rfl rfl) rfl (At.weaken [(13, _), (28, _), (29, _), (189, _)] (Sub.cons rfl (Sub.cons rfl (Sub.cons rfl (Sub.cons rfl Sub.nil)))) ?_))))))
     refine At.boolMeet 6 195 (decide (j < l.length)) ?_ ?_
     ·simp only [List.take_succ_cons, List.take_zero]
      refine tM rfl rfl ?_
      refine At.split (t := 190) rfl (fun h33 => ?_) (fun h33 => ?_)
      ·try simp only [hasB, isSizeB, sB] at h33
       refine At.yes rfl rfl (tM rfl rfl (At.yes rfl rfl (tM rfl rfl (At.yes rfl rfl (tV (Val.lenRow (i := 1) Tryz.underlying29 rfl rfl) rfl (At.yes rfl rfl (tV (Val.bin rfl rfl rfl) rfl (tV (Val.pickT rfl rfl) rfl (At.nil ?_)))))))))
       exact At.boolEnd rfl (by apply Bool.eq_iff_iff.2; (simp only [decide_eq_true_eq, Bool.false_eq_true, false_iff, true_iff, gt_iff_lt, ge_iff_le]) <;> omega) (by repeat (first | exact Sub.nil | refine Sub.cons rfl ?_))
      ·try simp only [hasB, isSizeB, sB] at h33
       refine At.no rfl rfl rfl rfl (At.no rfl rfl rfl rfl (At.no rfl rfl rfl rfl (At.no rfl rfl rfl rfl (tV (Val.pickF rfl rfl) rfl (At.nil ?_)))))
       exact At.boolEnd rfl (by apply Bool.eq_iff_iff.2; (simp only [decide_eq_true_eq, Bool.false_eq_true, false_iff, true_iff, gt_iff_lt, ge_iff_le]) <;> omega) (by repeat (first | exact Sub.nil | refine Sub.cons rfl ?_))
     ·simp only [List.drop_succ_cons, List.drop_zero]
      refine tE ?_
      refine At.cond rfl (fun h34 => ?_) (fun h34 => ?_)
      ·try simp only [hasB, isSizeB, sB] at h34
       refine At.skipC (At.thenN (At.seq (At.block (At.seq (At.quiet rfl (by decide +kernel) (qM rfl rfl (qM rfl rfl (QAt.idxRowB (i := 0) rfl Tryz.underlying29 Tryz.sizeOf5 rfl rfl (by omega) (by omega) rfl rfl (fun q35 hq36 hl37 => (qV (Val.loadRowB (i := 0) Tryz.isAgg5 rfl rfl hq36) rfl (qM rfl rfl (qM rfl rfl (QAt.idxRowB (i := 1) rfl Tryz.underlying29 Tryz.sizeOf5 rfl rfl (by omega) (by omega) rfl rfl (fun q38 hq39 hl40 => (qV (Val.loadRowB (i := 1) Tryz.isAgg5 rfl rfl hq39) rfl ?_)))))))))))))))
       have hpgI : ¬ (512 ≤ j ∧ j < 1024) → ((q35.toNat : Nat) : Int) = q38.toNat := fun g => by have h1 := hq36; have h2 := hq39; rw [Int.toNat_natCast] at h1 h2; rw [(hvb j g).trans (hwb j g), h2] at h1; rw [Option.some.inj h1]
       refine qV (Val.bin rfl rfl rfl) rfl (qM rfl rfl ?_)
       refine QAt.split (t := 207) rfl (fun h41 => ?_) (fun h41 => ?_)
       ·try simp only [hasB, isSizeB, sB] at h41
        have hpg : 512 ≤ j ∧ j < 1024 := Classical.byContradiction fun g => h41 (hpgI g)
        refine QAt.yes rfl rfl (qM rfl rfl (QAt.yes rfl rfl ?_))
        refine QAt.callP (fun w hw => (by have h0 := jpage_p (j : Int) w; rwa [decide_eq_true (by omega)] at h0)) Tryz.call27 rfl rfl (QAt.yes rfl rfl (qV (Val.not rfl) rfl (qV (Val.pickT rfl rfl) rfl (QAt.fin (At.thenN (At.condF rfl (At.skipC (At.blkN (At.thenN (At.region (tM rfl rfl ?_)))))))))))
        first | refine tV (Val.addI rfl rfl (by omega) (by omega)) rfl ?_ | refine tV (Val.bin rfl rfl rfl) rfl ?_
        refine tA rfl rfl (tE ?_)
        exact At.again (j + 1) (show j + 1 ≤ _ by omega) (by omega) (Sub.cons rfl (Sub.cons rfl (Sub.cons (congrArg (fun z => some (Value.int IntKind.i64 z)) (by omega)) Sub.nil))) (List.Perm.refl _)
       ·try simp only [hasB, isSizeB, sB] at h41
        refine QAt.no rfl rfl rfl rfl (QAt.no rfl rfl rfl rfl (QAt.no rfl rfl rfl rfl (qV (Val.pickF rfl rfl) rfl (QAt.fin (At.thenN (At.condF rfl (At.skipC (At.blkN (At.thenN (At.region (tM rfl rfl ?_)))))))))))
        first | refine tV (Val.addI rfl rfl (by omega) (by omega)) rfl ?_ | refine tV (Val.bin rfl rfl rfl) rfl ?_
        refine tA rfl rfl (tE ?_)
        exact At.again (j + 1) (show j + 1 ≤ _ by omega) (by omega) (Sub.cons rfl (Sub.cons rfl (Sub.cons (congrArg (fun z => some (Value.int IntKind.i64 z)) (by omega)) Sub.nil))) (List.Perm.refl _)
      ·try simp only [hasB, isSizeB, sB] at h34
       refine At.exitC (At.thenX (At.thenX (At.blkX (At.thenN (tR (tM rfl rfl (tV (Val.lenRow (i := 0) Tryz.underlying29 rfl rfl) rfl (tM rfl rfl (tV (Val.lenRow (i := 1) Tryz.underlying29 rfl rfl) rfl (tV (Val.bin rfl rfl rfl) rfl ?_))))))))))
       rw [show (((wbytes (viewWs τ.ws)).length : Nat) : Int) = (Wt.length : Nat) from by rw [hvl, hxl, hwtl], beq_self_eq_true]
       refine tA rfl rfl (tE (At.retC (At.ret1 (.inl rfl) rfl rfl rfl (fun w hw => ?_))))
       exact ⟨rfl, hw.mod⟩
end Go.Proofs.YtfchinibjhcejaaGreatDoor
