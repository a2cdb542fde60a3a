/- The doubts that a device tells. -/
import Derived.Test.YtgighokkflchmaaP7
import Derived.Test.YtgighokkflchmaaDr
set_option linter.unusedVariables false
set_option linter.unusedSimpArgs false
namespace Go.Proofs.Ytgighokkflchmaa
open Go Go.Wk

def dtsAt (ws : List Wd) (k : Nat) : Dt := match ws[k]? with | some w => (8 * (k : Int), w.old, w.news) | none => (0, 0, [])
/-- The words in doubt, rising: where, the old value, the news. -/
def dts (ws : List Wd) : List Dt := (dk ws).map (dtsAt ws)
theorem dtsAt_some {ws : List Wd} {k : Nat} {w : Wd} (h : ws[k]? = some w) : dtsAt ws k = (8 * (k : Int), w.old, w.news) := by unfold dtsAt; rw [h]
theorem dts_get {ws : List Wd} {K k : Nat} {w : Wd} (hK : (dk ws)[K]? = some k) (h : ws[k]? = some w) : (dts ws)[K]? = some (8 * (k : Int), w.old, w.news) := by
  unfold dts; rw [List.getElem?_map, hK]; show some (dtsAt ws k) = _; rw [dtsAt_some h]
theorem dts_length (ws : List Wd) : (dts ws).length = (dk ws).length := List.length_map ..
theorem dk_le (ws : List Wd) : (dk ws).length ≤ ws.length := Nat.le_trans (List.length_filter_le _ _) (by rw [List.length_range]; exact Nat.le_refl _)
theorem fst_snoc {ws : List Wd} {Q : List Dq} {K k : Nat} {w : Wd} {v : Value} (h : Q.map Prod.fst = (dts ws).take K) (hK : (dk ws)[K]? = some k) (hk : ws[k]? = some w) : (Q ++ [((8 * (k : Int), w.old, w.news), v)]).map Prod.fst = (dts ws).take (K + 1) := by
  rw [List.map_append, h, List.take_add_one, dts_get hK hk]; rfl
theorem fst_len {ws : List Wd} {Q : List Dq} {K : Nat} (h : Q.map Prod.fst = (dts ws).take K) (hK : K ≤ (dk ws).length) : Q.length = K := by
  have := congrArg List.length h
  rw [List.length_map, List.length_take, dts_length] at this; omega


theorem bs_66_0 (w : World) : (Instr.buildSlice 66 0 #[]).run Try.prog w = .ok (.slice (some ⟨w.heap.size, 0, none⟩) 0 0) (w.alloc (.cells [].toArray 32)) := by kernel_rfl

theorem clone_w (v : Value) (l : List (BitVec 64)) (w : World) (hv : RdW w v l) (hpos : 0 < l.length) (hl : l.length ≤ 1099511627776) :
    NewRow Try.prog 30 [v] tW 1 l.length (l.map b64) w := by
 refine enter (feet []) [] Try.func30 rfl Try.ntmps30 rfl ⟨by simp, by simp, by simp, Mod.refl _ _⟩ ?_
 obtain ⟨av, cv, hvs⟩ := rd_some hv hpos
 simp only [envOf]
 refine tR ?_
 refine tA rfl rfl ?_
 refine tE ?_
 refine At.seq ?_
 refine tR ?_
 refine tM rfl rfl ?_
 refine At.val (Val.eqNilS (t := 66) Try.underlying66 (congrArg some hvs)) rfl rfl rfl ?_
 refine tE ?_
 refine At.condF rfl ?_
 refine At.skipC ?_
 refine At.thenN ?_
 refine tR ?_
 refine At.buildRow (fun a ha => by simp only [List.map_toArray, List.map_cons, List.map_nil]; try rfl) (bs_66_0 ) 1 rfl (by decide) rfl (fun v1 => ?_)
 change At _ _ (wrow 32 v1 (([] : List (BitVec 64))) :: _) _
 refine tM rfl rfl ?_
 refine At.appendRdW (i := 0) (by_ := 8) Try.underlying66 info_32 rfl rfl rfl rfl rfl rfl rfl hv (fun _ _ _ _ _ _ _ h => by simp [feet] at h) (by simp only [List.length_nil]; omega) (by simp only [List.length_nil]; omega) rfl (fun v2 => ?_)
 simp only [List.set_cons_zero, List.nil_append]
 refine tA rfl rfl ?_
 refine tE ?_
 refine At.retC ?_
 refine At.ret1 (.inl rfl) rfl rfl rfl (fun w hw => ?_)
 exact ⟨_, rfl, hw⟩


theorem retDB {w w' : World} {p : Nat} {γ : Gh} {σ : Ds} {S : Nat → Prop} {v : Value} {Q : List Dq} {r : Res} (hw : Rep w S (star (newsR Q) :: drow v Q :: (devL p γ σ ++ [r])) w') : Rep w S [dbtR v Q, Dev p γ σ] w' := by
  have h1 := hw.toDbt
  have h2 : Rep w S (devL p γ σ ++ [dbtR v Q, r]) w' := h1.perm (List.perm_middle (l₁ := devL p γ σ) (a := dbtR v Q) (l₂ := [r])).symm
  exact (h2.shutS.perm (List.Perm.swap ..)).drop (List.Sublist.refl _ |>.cons _ |>.cons_cons _ |>.cons_cons _)

theorem doubts_k (p : Nat) (γ : Gh) (σ : Ds) (w : World) (hd : (Dev p γ σ).holds w) :
    DbtK Try.prog 13 [.pointer (some ⟨p, 0, none⟩)] (Dev p γ σ) (dts σ.ws) w := by
 refine enterV hd Try.func13 rfl Try.ntmps13 rfl ?_
 unfold devL
 have hgd := Dev.good hd
 have hln := hgd.len
 have hdl := dk_le σ.ws
 have hst := hgd.steps
 simp only [envOf]
 refine tR ?_
 refine tA rfl rfl ?_
 refine tE ?_
 refine tR ?_
 refine tA rfl rfl ?_
 refine tE ?_
 refine At.seq ?_
 refine tR ?_
 refine tM rfl rfl ?_
 refine At.callRKS (devL p γ σ) rfl (fun w hw hr => places_k p γ σ w hr) Try.call29 rfl rfl (fun v1 => ?_)
 refine At.sink5 ?_
 refine At.val (Val.lenRow (i := 5) Try.underlying23 rfl rfl) rfl rfl rfl ?_
 refine tM rfl rfl ?_
 refine At.nil ?_
 refine At.rowNil tDt 3 ?_
 refine At.starNil ?_
 refine At.thenN ?_
 refine At.block ?_
 skip
 refine At.loop (σ := Nat × List Dq × Value) (fun s => s.1 ≤ (dk σ.ws).length ∧ s.2.1.map Prod.fst = (dts σ.ws).take s.1) (fun s => [(0, .pointer (some ⟨p, 0, none⟩)), (3, s.2.2), (8, v1), (9, .int .i64 ((dk σ.ws).length : Int)), (10, .int .i64 (s.1 : Int))]) (fun s => [star (newsR s.2.1), drow s.2.2 s.2.1, blk p tDv [γ.vo, .map (some γ.mb), .int .i64 (σ.steps : Int), .bool σ.armed, .int .i64 (σ.left : Int)], wrow tW γ.vo (olds σ.ws), mapR γ.mb (mk σ.ws γ.g), fam (dI σ.ws γ.g), factR (Dgood σ), rowR v1 3 1 (dkeys σ.ws).length ((dkeys σ.ws).map (Value.int .i64))]) (fun s => (dk σ.ws).length - s.1) (0, [], .slice none 0 0) ⟨Nat.zero_le _, rfl⟩ (Sub.cons rfl (Sub.cons rfl (Sub.cons rfl (Sub.cons (congrArg (fun z => some (Value.int IntKind.i64 z)) (by rw [dkeys, List.length_map])) (Sub.cons rfl Sub.nil))))) (List.Perm.refl _) ?_
 intro s hs
 obtain ⟨K, Q, vd⟩ := s
 dsimp only at hs ⊢
 have hQl := fst_len hs.2 hs.1
 refine tR ?_
 refine At.val (Val.bin rfl rfl rfl) rfl rfl rfl ?_
 refine tE ?_
 refine At.seq ?_
 refine At.cond rfl (fun h2 => ?_) (fun h2 => ?_)
 ·skip
  try simp only [hasB, isSizeB, Bool.not_eq_true', Bool.not_eq_false', bne_iff_ne, ne_eq, bne_eq_false_iff_eq, beq_iff_eq, beq_eq_false_iff_ne, decide_eq_true_eq, decide_eq_false_iff_not, gt_iff_lt, ge_iff_le] at h2
  have hK : K < (dk σ.ws).length := by omega
  obtain ⟨k, hkK⟩ : ∃ k, (dk σ.ws)[K]? = some k := ⟨_, List.getElem?_eq_getElem hK⟩
  obtain ⟨wd, hk, hn⟩ := mem_dk.1 (List.mem_of_getElem? hkK)
  have hk0 := (List.getElem?_eq_some_iff.1 hk).1
  have hwd := hgd.word wd (List.mem_of_getElem? hk)
  refine At.skipC ?_
  refine At.thenN ?_
  refine At.seq ?_
  refine At.block ?_
  refine tR ?_
  refine At.val (Val.indexRow (i := 7) K (by omega) Try.underlying23 Try.sizeOf3 rfl rfl rfl (by omega) (by rw [dkeys, List.length_map]; omega)) rfl rfl rfl ?_
  refine At.val (Val.loadRow (i := 7) (u := .int .i64 (8 * (k : Int))) Try.isAgg3 rfl rfl (by rw [List.getElem?_map, dkeys, List.getElem?_map, hkK]; rfl)) rfl rfl rfl ?_
  refine tA rfl rfl ?_
  refine tE ?_
  refine tR ?_
  refine tM rfl rfl ?_
  refine At.val (Val.nilCheck rfl) rfl rfl rfl ?_
  refine At.val (Val.field 1 rfl fo_71_1 rfl) rfl rfl rfl ?_
  refine At.val (Val.load (i := 2) Try.isAgg69 rfl rfl rfl) rfl rfl rfl ?_
  refine tM rfl rfl ?_
  refine At.val (Val.look (i := 4) Try.underlying69 Try.underlying3 Try.zeroValue65 rfl rfl rfl) rfl rfl rfl ?_
  rw [mk_at, mkN_some hk hn]
  refine At.val (Val.nilCheck rfl) rfl rfl rfl ?_
  refine At.val (Val.field 0 rfl fo_68_0 rfl) rfl rfl rfl ?_
  refine At.val (Val.loadDbt (i := 5) Try.isAgg66 rfl rfl hk hn rfl) rfl rfl rfl ?_
  refine At.callN (fun w hw => clone_w _ _ w (dbt_win hw (i := 5) rfl hk hn) (List.length_pos_iff.2 hn) (by omega)) Try.call30 rfl rfl (fun v3 => ?_)
  refine tA rfl rfl ?_
  refine At.nil ?_
  refine At.rowIs (i := 0) rfl (fun A4 c5 hv => ?_)
  subst hv
  refine At.thenN ?_
  refine At.region ?_
  refine tM rfl rfl ?_
  refine tM rfl rfl ?_
  refine tM rfl rfl ?_
  refine At.val (Val.nilCheck rfl) rfl rfl rfl ?_
  refine At.val (Val.field 0 rfl fo_71_0 rfl) rfl rfl rfl ?_
  refine At.val (Val.load (i := 3) Try.isAgg66 rfl rfl rfl) rfl rfl rfl ?_
  refine tM rfl rfl ?_
  refine At.val (Val.quoI rfl rfl (by omega) (by omega) (by decide)) rfl rfl rfl ?_
  rw [show 8 * (k : Int) / 8 = (k : Int) from by omega]
  refine At.val (Val.indexRow (i := 4) k (by omega) Try.underlying66 Try.sizeOf32 rfl rfl rfl (by omega) (by rw [olds_length]; omega)) rfl rfl rfl ?_
  refine At.val (Val.loadRow (i := 4) Try.isAgg32 rfl rfl (by rw [List.getElem?_map, olds_at hk]; rfl)) rfl rfl rfl ?_
  refine tM rfl rfl ?_
  refine At.val (Val.build (fun a ha => by simp only [List.map_toArray, List.map_cons, List.map_nil, ha.eval (x := (.tmp 25)) rfl, ha.eval (x := (.tmp 33)) rfl, ha.eval (x := (.tmp 34)) rfl] <;> rfl) (bld_74_0_1_2 _ _ _ _ _ )) rfl rfl rfl ?_
  refine At.buildSl (fun a ha => by simp only [List.map_toArray, List.map_cons, List.map_nil, ha.eval (x := (.tmp 35)) rfl]; try rfl) (bs_44_1 _ _ _ _ _ ) rfl (fun b6 => ?_)
  refine At.appendD1 (i := 3) (j := 0) (by_ := 40) (c := ((8 * (k : Int), wd.old, wd.news), (.slice A4 (wd.news.length) c5))) Try.underlying44 info_74 rfl rfl rfl rfl rfl rfl rfl rfl rfl rfl (by rw [hQl]; omega) (by rw [hQl]; omega) rfl (fun v7 => ?_)
  simp only [sc0, scS]
  refine At.drop 0 ?_
  simp only [ec0, ecS]
  refine At.starPush ?_
  refine tA rfl rfl ?_
  refine At.nil ?_
  refine At.blkN ?_
  refine At.thenN ?_
  refine At.region ?_
  first | refine At.val (Val.addI rfl rfl (by omega) (by omega)) rfl rfl rfl ?_ | refine At.val (Val.bin rfl rfl rfl) rfl rfl rfl ?_
  refine tM rfl rfl ?_
  refine tE ?_
  exact At.again (K + 1, Q ++ [((8 * (k : Int), wd.old, wd.news), (.slice A4 (wd.news.length) c5))], v7) ⟨(show K + 1 ≤ _ by omega), fst_snoc hs.2 hkK hk⟩ (by dsimp only; omega) (Sub.cons rfl (Sub.cons rfl (Sub.cons rfl (Sub.cons rfl (Sub.cons (congrArg (fun z => some (Value.int IntKind.i64 z)) (by omega)) Sub.nil))))) (by dsimp only; rw [newsR_snoc])
 ·skip
  try simp only [hasB, isSizeB, Bool.not_eq_true', Bool.not_eq_false', bne_iff_ne, ne_eq, bne_eq_false_iff_eq, beq_iff_eq, beq_eq_false_iff_ne, decide_eq_true_eq, decide_eq_false_iff_not, gt_iff_lt, ge_iff_le] at h2
  obtain rfl : K = (dk σ.ws).length := by omega
  refine At.exitC ?_
  refine At.thenX ?_
  refine At.thenX ?_
  refine At.blkX ?_
  refine At.thenN ?_
  refine tR ?_
  refine tM rfl rfl ?_
  refine tA rfl rfl ?_
  refine tE ?_
  refine At.retC ?_
  refine At.ret1 (.inl rfl) rfl rfl rfl (fun w hw => ?_)
  exact ⟨_, _, rfl, by rw [hs.2, List.take_of_length_le (by rw [dts_length]; exact Nat.le_refl _)], retDB hw⟩

end Go.Proofs.Ytgighokkflchmaa
