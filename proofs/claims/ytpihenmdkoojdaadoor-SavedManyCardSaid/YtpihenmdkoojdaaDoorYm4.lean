/- Parts of the proof, joined: see the law's text. -/
import Derived.Test.YtpihenmdkoojdaaDoorYm3
set_option linter.unusedVariables false
set_option linter.unusedSimpArgs false
namespace Go.Proofs.YtpihenmdkoojdaaDoor
open Go Go.Wk
theorem tmod_bd (a : Int) {b : Int} (hb : 0 < b) : -b < a.tmod b ∧ a.tmod b < b := by
  rcases Int.le_total 0 a with h | h
  · rw [Int.tmod_eq_emod_of_nonneg h]
    have h1 := Int.emod_nonneg a (b := b) (by omega)
    have h2 := Int.emod_lt_of_pos a hb
    omega
  · have e : a.tmod b = -((-a).tmod b) := by rw [Int.neg_tmod, Int.neg_neg]
    rw [e, Int.tmod_eq_emod_of_nonneg (by omega)]
    have h1 := Int.emod_nonneg (-a) (b := b) (by omega)
    have h2 := Int.emod_lt_of_pos (-a) hb
    omega
def manyS (k : Nat) : List (Int × Int) := (List.range k).map fun (i : Nat) => (36 + 3 * (i : Int), 1 + (i : Int) % 2)
theorem manyS_length (k : Nat) : (manyS k).length = k := by simp [manyS]
theorem manyS_succ (k : Nat) : manyS (k + 1) = manyS k ++ [(36 + 3 * (k : Int), 1 + (k : Int) % 2)] := by unfold manyS; rw [List.range_succ, List.map_append]; rfl
theorem manyS_at {k j : Nat} (h : j < k) : (manyS k)[j]? = some (36 + 3 * (j : Int), 1 + (j : Int) % 2) := by unfold manyS; rw [List.getElem?_map, List.getElem?_range h]; rfl
theorem manyS_take {k m : Nat} (h : m ≤ k) : (manyS k).take m = manyS m := by
  apply List.ext_getElem?
  intro j
  rw [List.getElem?_take]
  by_cases hj : j < m
  · rw [if_pos hj, manyS_at (by omega), manyS_at hj]
  · rw [if_neg hj, List.getElem?_eq_none (by rw [manyS_length]; omega)]
theorem manyS_ok {k : Nat} (h : k ≤ 250) : SpK (manyS k) (manyS k).length := fun j c hj hc => by
  rw [manyS_length] at hj
  rw [manyS_at hj] at hc
  obtain rfl := Option.some.inj hc
  unfold OkSp
  match j, hj with
  | 0, _ => rw [loAt_0]; simp
  | j + 1, hj =>
    rw [loAt_succ (manyS_at (k := k) (j := j) (by omega))]
    dsimp only
    omega
theorem set_bad {L : List (Int × Int)} {d : Nat} {a x y : Int} (h : L[d]? = some (a, x)) (h1 : L[d + 1]? = some (a + 3, y)) : ¬ SpK (L.set d (a, 3)) (L.set d (a, 3)).length := by
  have hd := (List.getElem?_eq_some_iff.1 h).1
  refine spK_bad (k := d + 1) (q := (a + 3, y)) (by rw [List.getElem?_set_ne (by omega)]; exact h1) ?_
  rw [loAt_succ (c := (a, 3)) (by rw [List.getElem?_set_self hd])]
  unfold OkSp
  dsimp only
  omega
theorem set_bad0 {L : List (Int × Int)} {d : Nat} {a x : Int} (h : L[d]? = some (a, x)) : ¬ SpK (L.set d (a, 0)) (L.set d (a, 0)).length := by
  have hd := (List.getElem?_eq_some_iff.1 h).1
  refine spK_bad (k := d) (q := (a, 0)) (by rw [List.getElem?_set_self hd]) ?_
  unfold OkSp
  dsimp only
  omega
theorem saveE_bad {σ : Ds} {L : List (Int × Int)} (h : ¬ SpK L L.length) : saveE σ L = (false, 36, σ) := by unfold saveE; rw [if_pos h]
theorem saveE_long {σ : Ds} {L : List (Int × Int)} (h : SpK L L.length) (h1 : 2048 ≤ 8 * σ.ws.length) (h2 : 249 < L.length) : saveE σ L = (false, 0, σ) := by unfold saveE; rw [if_neg (Classical.not_not.2 h), if_neg (by omega), if_pos h2]
theorem prS_set {L : List (Int × Int)} {d : Nat} {a b : Int} (h : L[d]? = some (a, b)) (x : Int) : (prS L).set (d * 2 + 1) (.int .i64 x) = prS (L.set d (a, x)) := by
  have hd := (List.getElem?_eq_some_iff.1 h).1
  have e : L = L.take d ++ (a, b) :: L.drop (d + 1) := by
    conv => lhs; rw [← List.take_append_drop d L]
    rw [List.drop_eq_getElem_cons hd, (List.getElem?_eq_some_iff.1 h).2]
  have hl : (L.take d).length = d := by rw [List.length_take]; omega
  have e1 : L.set d (a, x) = L.take d ++ (a, x) :: L.drop (d + 1) := by
    conv => lhs; rw [e]
    rw [List.set_append_right _ _ (by omega), hl, Nat.sub_self]; rfl
  rw [e1]
  conv => lhs; rw [e]
  rw [prS_append, prS_append, List.set_append_right _ _ (by rw [prS_length]; omega), prS_length, hl, show d * 2 + 1 - d * 2 = 1 by omega]; rfl
theorem copySp_m (v : Value) (L M : List (Int × Int)) (w : World) (hv : RdS w v L) (hlen : L.length ≤ 8796093022144) (hM : M = L) : NewRow Tryd.prog 17 [v] 51 2 M.length (prS M) w := by subst hM; exact copySp_n v M w hv hlen
theorem lawSavedMany_p (n : Int) (w : World) (ht : Tab w) :
    PureC Tryd.prog 6 [.int .i64 n] (.bool true) w := by
 refine enter0 Tryd.func6 rfl Tryd.ntmps6 rfl ?_
 obtain ⟨σ0, hσ0⟩ : ∃ σ, σ = zeroD 65536 := ⟨_, rfl⟩
 obtain ⟨vs0, hv0, hvl0⟩ : ∃ vs : List (BitVec 64), σ0.ws = mkC vs ∧ vs.length = 65536 := ⟨List.replicate 65536 0, by rw [hσ0]; show List.replicate 65536 zWd = mkC _; unfold mkC; rw [List.map_replicate]; rfl, List.length_replicate⟩
 have ha0 : σ0.armed = false := by rw [hσ0]; rfl
 have hst0 : σ0.steps = 0 := by rw [hσ0]; rfl
 have hw0 : σ0.ws.length = 65536 := by rw [hv0, mkC_length]; exact hvl0
 have hg : GoodSup 1024 256 8 := by unfold GoodSup; omega
 simp only [envOf]
 refine tR ?_
 refine tA rfl rfl ?_
 refine tE ?_
 refine tR ?_
 refine At.callND (fun w hw => (by have h0 := new_n 524288 w (by decide) 65536 (by decide); rw [← hσ0] at h0; exact h0)) Tryd.call20 rfl rfl (fun p1 y2 => ?_)
 refine tM rfl rfl ?_
 refine At.val (Val.extract rfl rfl) rfl rfl rfl ?_
 refine At.val (Val.extract rfl rfl) rfl rfl rfl ?_
 refine tA rfl rfl ?_
 refine tA rfl rfl ?_
 refine tE ?_
 refine At.seq ?_
 refine tR ?_
 refine tM rfl rfl ?_
 refine At.val (Val.eqNil (t := 32) (by kernel_rfl) rfl) rfl rfl rfl ?_
 refine tM rfl rfl ?_
 refine At.yes rfl rfl ?_
 refine tM rfl rfl ?_
 refine At.yes rfl rfl ?_
 refine At.val (Val.bin rfl rfl rfl) rfl rfl rfl ?_
 refine At.val (Val.pickF rfl rfl) rfl rfl rfl ?_
 refine tE ?_
 refine At.condF rfl ?_
 refine At.skipC ?_
 refine At.thenN ?_
 refine tR ?_
 refine tA rfl rfl ?_
 refine At.nil ?_
 refine At.rowNilS 51 ?_
 refine At.thenN ?_
 refine At.seq ?_
 refine tR ?_
 refine tA rfl rfl ?_
 refine tE ?_
 refine At.block ?_
 skip
 refine At.loop (σ := Nat × Value) (fun s => s.1 ≤ 250) (fun s => [(0, .int .i64 n), (3, .pointer (some ⟨p1, 0, none⟩)), (5, s.2), (6, .int .i64 (s.1 : Int))]) (fun s => [srow 51 s.2 (manyS s.1), Dev p1 y2 (σ0)]) (fun s => 250 - s.1) (0, .slice none 0 0) (Nat.zero_le _) (Sub.cons rfl (Sub.cons rfl (Sub.cons rfl (Sub.cons rfl Sub.nil)))) (List.Perm.refl _) ?_
 intro s hs
 obtain ⟨k, vk⟩ := s
 dsimp only at hs ⊢
 have hml := manyS_length k
 refine At.seq ?_
 refine tR ?_
 refine tM rfl rfl ?_
 refine At.val (Val.bin rfl rfl rfl) rfl rfl rfl ?_
 refine tE ?_
 refine At.cond rfl (fun h3 => ?_) (fun h3 => ?_)
 ·skip
  try simp only [hasB, isSizeB, Bool.not_eq_true', Bool.not_eq_false', bne_iff_ne, ne_eq, bne_eq_false_iff_eq, beq_iff_eq, beq_eq_false_iff_ne, decide_eq_true_eq, decide_eq_false_iff_not, gt_iff_lt, ge_iff_le] at h3
  refine At.skipC ?_
  refine At.thenN ?_
  refine At.seq ?_
  refine At.block ?_
  refine At.region ?_
  refine tM rfl rfl ?_
  refine tM rfl rfl ?_
  first | refine At.val (Val.mulI rfl rfl (by omega) (by omega)) rfl rfl rfl ?_ | refine At.val (Val.bin rfl rfl rfl) rfl rfl rfl ?_
  first | refine At.val (Val.addI rfl rfl (by omega) (by omega)) rfl rfl rfl ?_ | refine At.val (Val.bin rfl rfl rfl) rfl rfl rfl ?_
  refine tM rfl rfl ?_
  first | refine At.val (Val.remI rfl rfl (by omega) (by decide)) rfl rfl rfl ?_ | refine At.val (Val.rem rfl rfl (by decide)) rfl rfl rfl ?_
  first | refine At.val (Val.addI rfl rfl (by omega) (by omega)) rfl rfl rfl ?_ | refine At.val (Val.bin rfl rfl rfl) rfl rfl rfl ?_
  refine At.val (Val.build (fun a ha => by simp only [List.map_toArray, List.map_cons, List.map_nil, ha.eval (x := (.tmp 28)) rfl, ha.eval (x := (.tmp 31)) rfl] <;> rfl) (bld_51_0_1 _ _ )) rfl rfl rfl ?_
  refine At.buildSl (fun a ha => by simp only [List.map_toArray, List.map_cons, List.map_nil, ha.eval (x := (.tmp 32)) rfl]; try rfl) (bs_30_1 _ _ ) rfl (fun b4 => ?_)
  refine At.appendS1 (i := 1) (j := 0) (by_ := 16) Tryd.underlying30 info_51 rfl rfl rfl rfl rfl rfl rfl rfl (by omega) (by omega) rfl (fun v5 => ?_)
  simp only [sc0, scS]
  refine At.drop 0 ?_
  simp only [ec0, ecS]
  refine tA rfl rfl ?_
  refine At.nil ?_
  refine At.blkN ?_
  refine At.thenN ?_
  refine At.region ?_
  refine tM rfl rfl ?_
  first | refine At.val (Val.addI rfl rfl (by omega) (by omega)) rfl rfl rfl ?_ | refine At.val (Val.bin rfl rfl rfl) rfl rfl rfl ?_
  refine tA rfl rfl ?_
  refine tE ?_
  exact At.again (k + 1, v5) (show k + 1 ≤ _ by omega) (by dsimp only; omega) (Sub.cons rfl (Sub.cons rfl (Sub.cons rfl (Sub.cons (congrArg (fun z => some (Value.int IntKind.i64 z)) (by dsimp only; omega)) Sub.nil)))) (by dsimp only; rw [manyS_succ])
 ·skip
  try simp only [hasB, isSizeB, Bool.not_eq_true', Bool.not_eq_false', bne_iff_ne, ne_eq, bne_eq_false_iff_eq, beq_iff_eq, beq_eq_false_iff_ne, decide_eq_true_eq, decide_eq_false_iff_not, gt_iff_lt, ge_iff_le] at h3
  refine At.exitC ?_
  refine At.thenX ?_
  refine At.thenX ?_
  refine At.blkX ?_
  refine At.thenN ?_
  refine At.seq ?_
  obtain rfl : k = 250 := by omega
  obtain ⟨L, hL⟩ : ∃ L, L = manyS 250 := ⟨_, rfl⟩
  have hso : SpK L L.length := by rw [hL]; exact manyS_ok (Nat.le_refl _)
  have hok : SpOk ((L.drop 0).take (249 - 0)) := by rw [hL, List.drop_zero, manyS_take (by omega)]; exact ⟨manyS_ok (by omega), by rw [manyS_length]; omega⟩
  have hLa : ∀ (j : Nat), j < 250 → L[j]? = some (36 + 3 * (j : Int), 1 + (j : Int) % 2) := fun j hj => by rw [hL]; exact manyS_at hj
  rw [← hL] at hml ⊢
  refine At.rowIs (i := 0) rfl (fun A6 c7 hv => ?_)
  subst hv
  refine At.region ?_
  refine tM rfl rfl ?_
  refine tM rfl rfl ?_
  refine At.callD 1 rfl (fun w hw hr => (by have h0 := save_d _ _ _ _ L w (ht.mod hw.mod) (Rep.off0 hw ht (fun h => h) (i := 1) rfl) (row_rd (hw.row (i := 0) rfl) (by decide)) (Rep.offRow (i := 0) (j := 1) hw rfl rfl (by decide)) (by first | omega | (rw [List.length_set]; omega)) (by omega) hr; rw [saveE_long hso (by omega) (by omega)] at h0; exact h0)) Tryd.call12 rfl rfl (fun y8 => ?_)
  simp only [sc0, scS]
  refine tM rfl rfl ?_
  refine At.val (Val.extract rfl rfl) rfl rfl rfl ?_
  refine At.val (Val.extract rfl rfl) rfl rfl rfl ?_
  refine tA rfl rfl ?_
  refine tA rfl rfl ?_
  refine tE ?_
  refine At.seq ?_
  refine tR ?_
  refine tM rfl rfl ?_
  refine tM rfl rfl ?_
  refine At.yes rfl rfl ?_
  refine tM rfl rfl ?_
  refine At.yes rfl rfl ?_
  refine At.val (Val.bin rfl rfl rfl) rfl rfl rfl ?_
  refine At.val (Val.pickF rfl rfl) rfl rfl rfl ?_
  refine tM rfl rfl ?_
  refine At.yes rfl rfl ?_
  refine tM rfl rfl ?_
  refine At.yes rfl rfl ?_
  refine At.callK 1 rfl (fun w hw hr => (by have h0 := steps_k _ _ _ w hr; rw [hst0] at h0; exact h0)) Tryd.call21 rfl rfl ?_
  refine At.yes rfl rfl ?_
  refine At.val (Val.bin rfl rfl rfl) rfl rfl rfl ?_
  refine At.val (Val.pickF rfl rfl) rfl rfl rfl ?_
  refine tE ?_
  refine At.condF rfl ?_
  refine At.skipC ?_
  refine At.thenN ?_
  refine tR ?_
  refine tM rfl rfl ?_
  refine At.val (Val.rem rfl rfl (by decide)) rfl rfl rfl ?_
  have hz := tmod_bd n (b := 249) (by decide)
  generalize Int.tmod n 249 = z at hz ⊢
  refine tA rfl rfl ?_
  refine tE ?_
  refine At.join (σ := Int) (fun s => 0 ≤ s ∧ s < 249) (fun s => [(0, .int .i64 s), (3, .pointer (some ⟨p1, 0, none⟩)), (5, (.slice A6 ((L).length) c7))]) (fun s => [rowR (.slice A6 ((L).length) c7) 51 2 ((L).length) (prS (L)), Dev p1 y8 (σ0)]) ?_ ?_
  ·skip
   refine tR ?_
   refine tM rfl rfl ?_
   refine At.val (Val.bin rfl rfl rfl) rfl rfl rfl ?_
   refine tE ?_
   refine At.cond rfl (fun h9 => ?_) (fun h9 => ?_)
   ·skip
    try simp only [hasB, isSizeB, Bool.not_eq_true', Bool.not_eq_false', bne_iff_ne, ne_eq, bne_eq_false_iff_eq, beq_iff_eq, beq_eq_false_iff_ne, decide_eq_true_eq, decide_eq_false_iff_not, gt_iff_lt, ge_iff_le] at h9
    refine At.region ?_
    refine tM rfl rfl ?_
    refine At.val (Val.neg rfl) rfl rfl rfl ?_
    rw [wrap_i64 (by omega) (by omega)]
    refine tA rfl rfl ?_
    refine tE ?_
    exact At.meets (0 - z) (by omega) (Sub.cons rfl (Sub.cons rfl (Sub.cons rfl Sub.nil))) (List.Perm.refl _)
   ·skip
    try simp only [hasB, isSizeB, Bool.not_eq_true', Bool.not_eq_false', bne_iff_ne, ne_eq, bne_eq_false_iff_eq, beq_iff_eq, beq_eq_false_iff_ne, decide_eq_true_eq, decide_eq_false_iff_not, gt_iff_lt, ge_iff_le] at h9
    refine At.skipC ?_
    refine At.thenN ?_
    exact At.meets z (by omega) (Sub.cons rfl (Sub.cons rfl (Sub.cons rfl Sub.nil))) (List.Perm.refl _)
  ·skip
   intro s hs
   obtain ⟨d, rfl⟩ : ∃ d : Nat, s = (d : Int) := ⟨s.toNat, by omega⟩
   refine tR ?_
   refine tM rfl rfl ?_
   obtain ⟨M, hM⟩ : ∃ M, M = L := ⟨_, rfl⟩
   have hMl : M.length = 250 := by rw [hM]; exact hml
   have hMa := hLa
   rw [← hM] at hMa
   refine At.callN (fun w hw => copySp_m _ L M w (row_rd (hw.row (i := 0) rfl) (by decide)) (by first | omega | (simp only [List.length_take, List.length_drop]; omega)) hM) Tryd.call17 rfl rfl (fun v10 => ?_)
   refine tA rfl rfl ?_
   refine tE ?_
   refine tR ?_
   refine tM rfl rfl ?_
   refine tM rfl rfl ?_
   refine At.val (Val.indexRow (i := 0) (d * 2) (by omega) Tryd.underlying30 Tryd.sizeOf51 rfl rfl rfl (by omega) (by omega)) rfl rfl rfl ?_
   refine At.val (Val.field ((d * 2 + 1)) rfl fo_51_1 rfl) rfl rfl rfl ?_
   refine At.storeRow (i := 0) Tryd.sizeOf3 rfl rfl rfl rfl (by rw [prS_length]; omega) ?_
   simp only [sc0, scS]
   rw [prS_set (hMa d (by omega)) 3, show M.length = (M.set d (36 + 3 * (d : Int), 3)).length from (List.length_set ..).symm]
   refine tE ?_
   refine tR ?_
   refine tM rfl rfl ?_
   refine tM rfl rfl ?_
   refine At.callD 2 rfl (fun w hw hr => (by have h0 := save_d _ _ _ _ (M.set d (36 + 3 * (d : Int), 3)) w (ht.mod hw.mod) (Rep.off0 hw ht (fun h => h) (i := 2) rfl) (row_rd (hw.row (i := 0) rfl) (by decide)) (Rep.offRow (i := 0) (j := 2) hw rfl rfl (by decide)) (by first | omega | (rw [List.length_set]; omega)) (by omega) hr; rw [(saveE_bad (set_bad (hMa d (by omega)) (y := 1 + ((d : Int) + 1) % 2) (by rw [hMa (d + 1) (by omega)]; exact congrArg some (Prod.ext (by dsimp only; omega) (by dsimp only; omega)))))] at h0; exact h0)) Tryd.call12 rfl rfl (fun y11 => ?_)
   simp only [sc0, scS]
   refine tM rfl rfl ?_
   refine At.val (Val.extract rfl rfl) rfl rfl rfl ?_
   refine At.val (Val.extract rfl rfl) rfl rfl rfl ?_
   refine tA rfl rfl ?_
   refine tA rfl rfl ?_
   refine tE ?_
   refine At.seq ?_
   refine tR ?_
   refine tM rfl rfl ?_
   refine tM rfl rfl ?_
   refine At.yes rfl rfl ?_
   refine tM rfl rfl ?_
   refine At.yes rfl rfl ?_
   refine At.val (Val.bin rfl rfl rfl) rfl rfl rfl ?_
   refine At.val (Val.pickF rfl rfl) rfl rfl rfl ?_
   refine tE ?_
   refine At.condF rfl ?_
   refine At.skipC ?_
   refine At.thenN ?_
   refine tR ?_
   refine tM rfl rfl ?_
   refine At.val (Val.cutRow (i := 1) (l := 0) (h := 249) rfl (by decide) Tryd.underlying30 Tryd.sizeOf51 rfl (by exact rfl) (by exact ⟨_, _, rfl, by omega, by omega⟩) (by omega) (by omega)) rfl rfl rfl ?_
   obtain ⟨M2, hM2⟩ : ∃ M, M = ((L.drop 0).take (249 - 0)) := ⟨_, rfl⟩
   have hM2l : M2.length = 249 := by rw [hM2, List.length_take, List.length_drop, hml]; rfl
   have hM2a : M2[d]? = some (36 + 3 * (d : Int), 1 + (d : Int) % 2) := by rw [hM2, List.drop_zero, List.getElem?_take, if_pos (by omega)]; exact hLa d (by omega)
   refine At.callN (fun w hw => copySp_m _ ((L.drop 0).take (249 - 0)) M2 w (RdS.cut (L := L) (row_rd (hw.row (i := 1) rfl) (by decide)) (by omega) (by omega)) (by first | omega | (simp only [List.length_take, List.length_drop]; omega)) hM2) Tryd.call17 rfl rfl (fun v12 => ?_)
   refine tA rfl rfl ?_
   refine tE ?_
   refine tR ?_
   refine tM rfl rfl ?_
   refine tM rfl rfl ?_
   refine At.val (Val.indexRow (i := 0) (d * 2) (by omega) Tryd.underlying30 Tryd.sizeOf51 rfl rfl rfl (by omega) (by omega)) rfl rfl rfl ?_
   refine At.val (Val.field ((d * 2 + 1)) rfl fo_51_1 rfl) rfl rfl rfl ?_
   refine At.storeRow (i := 0) Tryd.sizeOf3 rfl rfl rfl rfl (by rw [prS_length]; omega) ?_
   simp only [sc0, scS]
   rw [prS_set hM2a 0, show M2.length = (M2.set d (36 + 3 * (d : Int), 0)).length from (List.length_set ..).symm]
   refine tE ?_
   refine tR ?_
   refine tM rfl rfl ?_
   refine tM rfl rfl ?_
   refine At.callD 3 rfl (fun w hw hr => (by have h0 := save_d _ _ _ _ (M2.set d (36 + 3 * (d : Int), 0)) w (ht.mod hw.mod) (Rep.off0 hw ht (fun h => h) (i := 3) rfl) (row_rd (hw.row (i := 0) rfl) (by decide)) (Rep.offRow (i := 0) (j := 3) hw rfl rfl (by decide)) (by first | omega | (rw [List.length_set]; omega)) (by omega) hr; rw [saveE_bad (set_bad0 hM2a)] at h0; exact h0)) Tryd.call12 rfl rfl (fun y13 => ?_)
   simp only [sc0, scS]
   refine tM rfl rfl ?_
   refine At.val (Val.extract rfl rfl) rfl rfl rfl ?_
   refine At.val (Val.extract rfl rfl) rfl rfl rfl ?_
   refine tA rfl rfl ?_
   refine tA rfl rfl ?_
   refine tE ?_
   refine At.seq ?_
   refine tR ?_
   refine tM rfl rfl ?_
   refine tM rfl rfl ?_
   refine At.yes rfl rfl ?_
   refine tM rfl rfl ?_
   refine At.yes rfl rfl ?_
   refine At.val (Val.bin rfl rfl rfl) rfl rfl rfl ?_
   refine At.val (Val.pickF rfl rfl) rfl rfl rfl ?_
   refine tM rfl rfl ?_
   refine At.yes rfl rfl ?_
   refine tM rfl rfl ?_
   refine At.yes rfl rfl ?_
   refine At.callK 3 rfl (fun w hw hr => (by have h0 := steps_k _ _ _ w hr; rw [hst0] at h0; exact h0)) Tryd.call21 rfl rfl ?_
   refine At.yes rfl rfl ?_
   refine At.val (Val.bin rfl rfl rfl) rfl rfl rfl ?_
   refine At.val (Val.pickF rfl rfl) rfl rfl rfl ?_
   refine tE ?_
   refine At.condF rfl ?_
   refine At.skipC ?_
   refine At.thenN ?_
   refine tR ?_
   refine tM rfl rfl ?_
   refine tM rfl rfl ?_
   refine At.val (Val.cutRow (i := 2) (l := 0) (h := 249) rfl (by decide) Tryd.underlying30 Tryd.sizeOf51 rfl (by exact rfl) (by exact ⟨_, _, rfl, by omega, by omega⟩) (by omega) (by omega)) rfl rfl rfl ?_
   obtain ⟨vs1, t1, ea1, eb1, hv1, ha1, hl1, hs1, hz1, hr1, hq1, hR1, hst1⟩ := save_x (L := ((L.drop 0).take (249 - 0))) hv0 ha0 hg (by omega) hok
   obtain ⟨σ1, hσ1⟩ : ∃ σ, σ = (saveE σ0 ((L.drop 0).take (249 - 0))).2.2 := ⟨_, rfl⟩
   rw [← hσ1] at hv1 ha1 hst1
   have hvl1 := hl1.trans hvl0
   refine At.callD 3 rfl (fun w hw hr => (by have h0 := save_d _ _ _ _ ((L.drop 0).take (249 - 0)) w (ht.mod hw.mod) (Rep.off0 hw ht (fun h => h) (i := 3) rfl) (RdS.cut (L := L) (row_rd (hw.row (i := 2) rfl) (by decide)) (by omega) (by omega)) (Off.cutS (Rep.offRow (i := 2) (j := 3) hw rfl rfl (by decide))) (by first | omega | (simp only [List.length_take, List.length_drop]; omega) | (have h9 := growS_le L; omega)) (by omega) hr; rw [ea1, eb1, ← hσ1] at h0; exact h0)) Tryd.call12 rfl rfl (fun y14 => ?_)
   simp only [sc0, scS]
   refine tM rfl rfl ?_
   refine At.val (Val.extract rfl rfl) rfl rfl rfl ?_
   refine At.val (Val.extract rfl rfl) rfl rfl rfl ?_
   refine tA rfl rfl ?_
   refine tA rfl rfl ?_
   refine tE ?_
   refine At.seq ?_
   apply At.any (t := 12)
   · rfl
   refine KAt.pin (fun w hw => hw) ?_
   refine KAt.take 0 (Val.move rfl) rfl rfl rfl rfl (fun w hw => hw) (by decide +kernel) ?_
   refine KAt.take 2 (Val.build (fun a ha => by simp only [List.map_toArray, List.map_cons, List.map_nil, ha.eval (x := (.const (.int .i64 (1024)))) rfl, ha.eval (x := (.const (.int .i64 (256)))) rfl, ha.eval (x := (.const (.int .i64 (8)))) rfl, ha.eval (x := (.const (.int .i64 (36)))) rfl] <;> rfl) (bld_28_0_1_2_3 _ _ _ _ )) rfl rfl rfl rfl (fun w hw => hw) (by decide +kernel) ?_
   refine KAt.take 3 (Val.move rfl) rfl rfl rfl rfl (fun w hw => hw) (by decide +kernel) ?_
   refine KAt.take 4 (Val.cutRow (i := 2) (l := 0) (h := 249) rfl (by decide) Tryd.underlying30 Tryd.sizeOf51 rfl (by exact rfl) (by exact ⟨_, _, rfl, by omega, by omega⟩) (by omega) (by omega)) rfl rfl rfl rfl (fun w hw => hw) (by decide +kernel) ?_
   refine KAt.take 5 (Val.build (fun a ha => by simp only [List.map_toArray, List.map_cons, List.map_nil, ha.eval (x := (.tmp 107)) rfl, ha.eval (x := (.tmp 109)) rfl] <;> rfl) (bld_45_0_2 _ _ _ _ _ _ _ )) rfl rfl rfl rfl (fun w hw => hw) (by decide +kernel) ?_
   refine KAt.only 1 rfl (by decide +kernel) ?_
   refine At.callRK 3 rfl (fun w hw hr => (by have h0 := view_k _ _ _ w hr; rw [hv1, mkC_view] at h0; exact h0)) Tryd.call13 rfl rfl (fun v15 => ?_)
   refine At.nil ?_
   refine KAt.go (fun w hw => hw.drop (List.Sublist.cons _ (List.Sublist.cons_cons _ (List.Sublist.cons_cons _ (List.Sublist.cons_cons _ (List.Sublist.cons_cons _ (List.Sublist.refl _))))))) ?_
   refine KAt.only 6 rfl (by decide +kernel) ?_
   refine At.callNT (g := (fun v => .tuple #[v, .int .i64 0])) (fun w hw => (by have h0 := restore_n _ _ (wbytes vs1) 1024 256 8 (4 + 256 / 8) ((L.drop 0).take (249 - 0)) w (ht.mod hw.mod) (row_rd (hw.row (i := 0) rfl) (by decide)) (RdS.cut (L := L) (row_rd (hw.row (i := 3) rfl) (by decide)) (by omega) (by omega)) (by rw [wbytes_length]; omega) (by first | omega | (simp only [List.length_take, List.length_drop]; omega) | (have h9 := growS_le L; omega)); rw [restL_yes ((hR1 ((L.drop 0).take (249 - 0))).trans (if_pos rfl)), (hR1 ((L.drop 0).take (249 - 0))).trans (if_pos rfl)] at h0; exact h0)) Tryd.call14 rfl rfl (fun v16 => ?_)
   refine At.nil ?_
   refine KAt.go (fun w hw => hw.drop (List.Sublist.cons _ (List.Sublist.cons _ (List.Sublist.cons_cons _ (List.Sublist.cons_cons _ (List.Sublist.cons_cons _ (List.Sublist.cons_cons _ (List.Sublist.refl _)))))))) ?_
   refine KAt.take 7 (Val.move rfl) rfl rfl rfl rfl (fun w hw => hw.drop (List.Sublist.cons _ (List.Sublist.cons _ (List.Sublist.cons_cons _ (List.Sublist.cons_cons _ (List.Sublist.cons_cons _ (List.Sublist.cons_cons _ (List.Sublist.refl _)))))))) (by decide +kernel) ?_
   refine KAt.take 8 (Val.extract rfl rfl) rfl rfl rfl rfl (fun w hw => hw.drop (List.Sublist.cons _ (List.Sublist.cons _ (List.Sublist.cons_cons _ (List.Sublist.cons_cons _ (List.Sublist.cons_cons _ (List.Sublist.cons_cons _ (List.Sublist.refl _)))))))) (by decide +kernel) ?_
   refine KAt.take 9 (Val.extract rfl rfl) rfl rfl rfl rfl (fun w hw => hw.drop (List.Sublist.cons _ (List.Sublist.cons _ (List.Sublist.cons_cons _ (List.Sublist.cons_cons _ (List.Sublist.cons_cons _ (List.Sublist.cons_cons _ (List.Sublist.refl _)))))))) (by decide +kernel) ?_
   refine KAt.take 10 (Val.assign rfl) rfl rfl rfl rfl (fun w hw => hw.drop (List.Sublist.cons _ (List.Sublist.cons _ (List.Sublist.cons_cons _ (List.Sublist.cons_cons _ (List.Sublist.cons_cons _ (List.Sublist.cons_cons _ (List.Sublist.refl _)))))))) (by decide +kernel) ?_
   refine KAt.take 11 (Val.assign rfl) rfl rfl rfl rfl (fun w hw => hw.drop (List.Sublist.cons _ (List.Sublist.cons _ (List.Sublist.cons_cons _ (List.Sublist.cons_cons _ (List.Sublist.cons_cons _ (List.Sublist.cons_cons _ (List.Sublist.refl _)))))))) (by decide +kernel) ?_
   refine KAt.done (by decide +kernel) ?_
   refine At.thenN ?_
   refine tR ?_
   refine tM rfl rfl ?_
   refine tM rfl rfl ?_
   refine At.yes rfl rfl ?_
   refine tM rfl rfl ?_
   refine At.yes rfl rfl ?_
   refine At.val (Val.bin rfl rfl rfl) rfl rfl rfl ?_
   refine At.val (Val.pickT rfl rfl) rfl rfl rfl ?_
   refine tM rfl rfl ?_
   refine At.yes rfl rfl ?_
   refine tM rfl rfl ?_
   refine At.yes rfl rfl ?_
   refine At.val (Val.bin rfl rfl rfl) rfl rfl rfl ?_
   refine At.val (Val.pickT rfl rfl) rfl rfl rfl ?_
   refine tM rfl rfl ?_
   refine At.yes rfl rfl ?_
   refine tM rfl rfl ?_
   refine At.yes rfl rfl ?_
   refine tM rfl rfl ?_
   refine At.yes rfl rfl ?_
   refine At.val (Val.cutRow (i := 4) (l := 0) (h := 249) rfl (by decide) Tryd.underlying30 Tryd.sizeOf51 rfl (by exact rfl) (by exact ⟨_, _, rfl, by omega, by omega⟩) (by omega) (by omega)) rfl rfl rfl ?_
   refine At.yes rfl rfl ?_
   refine At.callP (fun w hw => (by have h0 := sameSpL_p _ _ ((L.drop 0).take (249 - 0)) ((L.drop 0).take (249 - 0)) w (row_rd (hw.row (i := 0) rfl) (by decide)) (RdS.cut (L := L) (row_rd (hw.row (i := 4) rfl) (by decide)) (by omega) (by omega)) (by first | omega | (simp only [List.length_take, List.length_drop]; omega) | (have h9 := growS_le L; omega)) (by first | omega | (simp only [List.length_take, List.length_drop]; omega) | (have h9 := growS_le L; omega)); rwa [decide_eq_true rfl] at h0)) Tryd.call16 rfl rfl ?_
   refine At.val (Val.pickT rfl rfl) rfl rfl rfl ?_
   refine tA rfl rfl ?_
   refine tE ?_
   refine At.retC ?_
   refine At.ret1 (.inl rfl) rfl rfl rfl (fun w hw => ?_)
   exact ⟨rfl, hw.mod⟩
end Go.Proofs.YtpihenmdkoojdaaDoor
