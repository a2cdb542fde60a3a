/- PmemTold: the walk. -/
import Derived.Test.YtkpbpeajkfgfiaaQ4
import Derived.Test.YtkpbpeajkfgfiaaP10
set_option linter.unusedVariables false
set_option linter.unusedSimpArgs false
namespace Go.Proofs.Ytkpbpeajkfgfiaa
open Go Go.Wk

theorem doubt_at {ws : List Wd} {Q : List Dq} {K : Nat} {x : Dq} (h : Q.map Prod.fst = dts ws) (hx : Q[K]? = some x) : ∃ k w, (dk ws)[K]? = some k ∧ ws[k]? = some w ∧ w.news ≠ [] ∧ x.1 = (8 * (k : Int), w.old, w.news) := by
  have h1 : (dts ws)[K]? = some x.1 := by rw [← h, List.getElem?_map, hx]; rfl
  unfold dts at h1
  rw [List.getElem?_map] at h1
  cases hk : (dk ws)[K]? with
  | none => rw [hk] at h1; cases h1
  | some k =>
    rw [hk] at h1
    obtain ⟨w, hw, hn⟩ := mem_dk.1 (List.mem_of_getElem? hk)
    exact ⟨k, w, rfl, hw, hn, by rw [← dtsAt_some hw]; exact (Option.some.inj h1).symm⟩
theorem pickC_zero {cs : List Int} {K : Nat} {w : Wd} (h : cs[K]? = none ∨ cs[K]? = some 0) : pickC cs K w = w.old := by
  rcases h with h | h
  · exact pick_old (c := 0) rfl (by rw [h])
  · exact pick_old (c := 0) rfl (by rw [h]; simp)
theorem pickC_at {cs : List Int} {K c : Nat} {w : Wd} (h : cs[K]? = some (c : Int)) (hc : c ≤ w.news.length) : pickC cs K w = if c = 0 then w.old else (w.news[c - 1]?).getD w.old := by
  have ht : ((c : Int)).tmod ((w.news.length : Int) + 1) = (c : Int) := Int.tmod_eq_of_lt (by omega) (by omega)
  have hm : (c : Int) = (match cs[K]? with | some c => (if c.tmod ((w.news.length : Int) + 1) < 0 then c.tmod ((w.news.length : Int) + 1) + ((w.news.length : Int) + 1) else c.tmod ((w.news.length : Int) + 1)) | none => 0) := by
    rw [h]; simp only [ht]; rw [if_neg (by omega)]
  by_cases h0 : c = 0
  · rw [if_pos h0]; exact pick_old (c := (c : Int)) (by omega) hm
  · rw [if_neg h0]
    have hz : w.news[((c : Int) - 1).toNat]? = some (w.news[c - 1]'(by omega)) := by rw [show ((c : Int) - 1).toNat = c - 1 by omega]; exact List.getElem?_eq_getElem _
    rw [pick_new (c := (c : Int)) (by omega) hm hz, List.getElem?_eq_getElem (by omega)]; rfl
theorem picked_lasts (ws : List Wd) : picked ws (pkC ws ((dts ws).map fun x => (x.2.2.length : Int))) = viewWs ws := by
  apply List.ext_getElem?
  intro k
  unfold viewWs
  rw [List.getElem?_map]
  cases hk : ws[k]? with
  | none => rw [List.getElem?_eq_none (by rw [picked_length]; exact List.getElem?_eq_none_iff.1 hk)]; rfl
  | some w =>
    by_cases hn : w.news = []
    · rw [picked_old hk hn]; exact congrArg some (now_old hn).symm
    · obtain ⟨K, hK⟩ := dk_of hk hn
      have hpos := List.length_pos_iff.2 hn
      rw [picked_new hK, pkC_at hk, pickC_at (c := w.news.length) (by rw [List.getElem?_map, dts_get hK hk]; rfl) (Nat.le_refl _), if_neg (by omega)]
      refine congrArg some ?_
      unfold nowW
      rw [← List.getLast?_eq_getElem?]
def onlyL (K c : Nat) : List Int := List.replicate K 0 ++ [(c : Int)]
theorem onlyL_at (K c : Nat) : (onlyL K c)[K]? = some (c : Int) := by unfold onlyL; rw [List.getElem?_append_right (by simp)]; simp
theorem onlyL_ne {K c J : Nat} (h : J ≠ K) : (onlyL K c)[J]? = none ∨ (onlyL K c)[J]? = some 0 := by
  unfold onlyL
  rcases Nat.lt_or_ge J K with h1 | h1
  · right; rw [List.getElem?_append_left (by simpa using h1), List.getElem?_replicate, if_pos h1]
  · left; rw [List.getElem?_eq_none (by simp; omega)]
def valC (w : Wd) (c : Nat) : BitVec 64 := if c = 0 then w.old else (w.news[c - 1]?).getD w.old
/-- One choice changes its own word alone. -/
theorem picked_only {ws : List Wd} {K k c : Nat} {w : Wd} (hK : (dk ws)[K]? = some k) (hk : ws[k]? = some w) (hc : c ≤ w.news.length) : picked ws (pkC ws (onlyL K c)) = (picked ws (pkC ws [])).set k (valC w c) := by
  apply List.ext_getElem?
  intro j
  have hkl := (List.getElem?_eq_some_iff.1 hk).1
  by_cases e : k = j
  · subst e
    rw [List.getElem?_set_self (by rw [picked_length]; exact hkl), picked_new hK, pkC_at hk, pickC_at (onlyL_at K c) hc]; rfl
  · rw [List.getElem?_set_ne e]
    cases hj : ws[j]? with
    | none => rw [List.getElem?_eq_none (by rw [picked_length]; exact List.getElem?_eq_none_iff.1 hj), List.getElem?_eq_none (by rw [picked_length]; exact List.getElem?_eq_none_iff.1 hj)]
    | some u =>
      by_cases hn : u.news = []
      · rw [picked_old hj hn, picked_old hj hn]
      · obtain ⟨J, hJ⟩ := dk_of hj hn
        have hne : J ≠ K := fun e2 => by subst e2; exact e (Option.some.inj (hK.symm.trans hJ))
        rw [picked_new hJ, picked_new hJ, pkC_at hj, pkC_at hj, pickC_zero (onlyL_ne hne), pickC_zero (.inl rfl)]
theorem bytes_set {X : List (BitVec 64)} {k i : Nat} {v : BitVec 64} (hk : k < X.length) (h : i < 8 * k ∨ 8 * k + 8 ≤ i) : (wbytes (X.set k v))[i]? = (wbytes X)[i]? := by
  rw [← put8_set v hk]
  unfold put8 putK
  have hl := wbytes_length X
  have h8 : ((le8 v).take 8).length = 8 := by rw [List.length_take, le_length]; rfl
  rcases h with h | h
  · rw [List.append_assoc, List.getElem?_append_left (by rw [List.length_take]; omega), List.getElem?_take, if_pos h]
  · rw [List.getElem?_append_right (by rw [List.length_append, List.length_take, h8]; omega), List.getElem?_drop, List.length_append, List.length_take, h8]
    congr 1; omega
theorem dk_lt {ws : List Wd} {I J i j : Nat} (h : I < J) (hI : (dk ws)[I]? = some i) (hJ : (dk ws)[J]? = some j) : i < j := by
  have h1 := List.getElem?_eq_some_iff.1 hI
  have h2 := List.getElem?_eq_some_iff.1 hJ
  have := List.pairwise_iff_getElem.1 (dk_rising ws) I J h1.1 h2.1 h
  rw [h1.2, h2.2] at this; exact this
abbrev lensL (D : List Dt) : List Int := D.map fun x => (x.2.2.length : Int)
theorem lens_take {Q : List Dq} {i : Nat} {x : Dq} (hx : Q[i]? = some x) : lensL ((Q.take (i + 1)).map Prod.fst) = lensL ((Q.take i).map Prod.fst) ++ [(x.1.2.2.length : Int)] := by
  rw [List.take_add_one, hx]; simp [lensL]
theorem rep_snoc (n : Nat) : (List.replicate n (0 : Int)) ++ [0] = List.replicate (n + 1) 0 := by rw [List.replicate_succ']


theorem news_le {N : Nat} (hN : 0 < N) (L : List Nt) (hL : L.length ≤ 400) : ∀ u ∈ (run N (zeroD N) L).ws, u.news.length ≤ 400 := by
  have key : ∀ n, n ≤ L.length → ∀ (k : Nat) (u : Wd), (run N (zeroD N) (L.take n)).ws[k]? = some u → u.news.length ≤ n := by
    intro n
    induction n with
    | zero =>
      intro _ k u hu
      rw [List.take_zero] at hu
      have := (List.mem_replicate.1 (List.mem_of_getElem? hu)).2
      subst this; exact Nat.le_refl _
    | succ n ih =>
      intro hn k u hu
      obtain ⟨q, hq⟩ : ∃ q, L[n]? = some q := ⟨_, List.getElem?_eq_getElem (by omega)⟩
      rw [take_succ_of_get hq, run_snoc] at hu
      obtain ⟨_, _, hl⟩ := run_rest hN (L.take n) (zeroD N) (zeroD_len N) rfl
      have ih' := ih (by omega)
      generalize run N (zeroD N) (L.take n) = σ at *
      unfold noteD at hu
      split at hu
      · obtain ⟨w, hw⟩ : ∃ w, σ.ws[wordI q.2.1 N]? = some w := ⟨_, List.getElem?_eq_getElem (by rw [hl]; exact wordI_lt _ hN)⟩
        rw [hw] at hu
        by_cases e : wordI q.2.1 N = k
        · subst e
          rw [setD_self (σ := stepD σ) hw] at hu
          obtain rfl := Option.some.inj hu
          have := ih' _ _ hw
          simp only [pushW, List.length_append, List.length_singleton]; omega
        · have hu' : σ.ws[k]? = some u := by unfold setD at hu; simp only at hu; rw [List.getElem?_set_ne e] at hu; exact hu
          have := ih' _ _ hu'; omega
      · split at hu
        · have hkl : k < σ.ws.length := by
            have := (List.getElem?_eq_some_iff.1 hu).1
            have h4 := (flushK_rest (stepD σ) (8 * (wordI q.2.1 N / 8)) 8).2.2.2.1
            rw [h4] at this; exact this
          obtain ⟨m, e1, _⟩ := flushK_at (σ := stepD σ) (f := 8 * (wordI q.2.1 N / 8)) (show (stepD σ).ws[k]? = some _ from List.getElem?_eq_getElem hkl) 8
          rw [e1] at hu
          obtain rfl := Option.some.inj hu
          have := ih' k _ (List.getElem?_eq_getElem hkl)
          show (σ.ws[k]).news.length ≤ n + 1
          omega
        · have hkl : k < σ.ws.length := by
            have := (List.getElem?_eq_some_iff.1 hu).1
            simpa [fenceD, stepD] using this
          rw [fenceD_at (σ := stepD σ) (show (stepD σ).ws[k]? = some _ from List.getElem?_eq_getElem hkl)] at hu
          obtain rfl := Option.some.inj hu
          have := ih' k _ (List.getElem?_eq_getElem hkl)
          have h2 : (fenceW (σ.ws[k])).news.length ≤ (σ.ws[k]).news.length := by unfold fenceW; split; exact Nat.le_refl _; simp
          exact Nat.le_trans h2 (by omega)
  intro u hu
  obtain ⟨k, hk⟩ := List.getElem?_of_mem hu
  have := key L.length (Nat.le_refl _) k u (by rwa [List.take_length])
  omega

theorem lasts_k (p : Nat) (γ : Gh) (σ : Ds) (w : World) (hd : (Dev p γ σ).holds w) :
    RowK Try.prog 29 [.pointer (some ⟨p, 0, none⟩)] (Dev p γ σ) 3 1 (lensL (dts σ.ws)).length ((lensL (dts σ.ws)).map (Value.int .i64)) w := by
 refine enterVc hd Try.func29 rfl Try.ntmps29 rfl ?_
 have hgd := Dev.good hd
 have hln := hgd.len
 have hdl := dk_le σ.ws
 simp only [envOf]
 refine tR ?_
 refine tA rfl rfl ?_
 refine tE ?_
 refine tR ?_
 refine tM rfl rfl ?_
 refine At.callDB 0 rfl (fun w hw hr => doubts_k _ _ _ w hr) Try.call27 rfl rfl (fun v1 Q2 hQ3 => ?_)
 refine tA rfl rfl ?_
 refine At.nil ?_
 have hQb : Q2.length ≤ 65536 := by have h1 := congrArg List.length hQ3; rw [List.length_map, dts_length] at h1; omega
 refine At.thenN ?_
 refine tR ?_
 refine tA rfl rfl ?_
 refine At.nil ?_
 refine At.rowNilI 3 ?_
 refine At.thenN ?_
 refine At.seq ?_
 refine tR ?_
 refine tA rfl rfl ?_
 refine tE ?_
 refine At.block ?_
 skip
 refine At.loop (σ := Nat × Value) (fun s => s.1 ≤ Q2.length) (fun s => [(3, v1), (4, s.2), (5, .int .i64 (s.1 : Int))]) (fun s => [irow 3 s.2 (lensL ((Q2.take s.1).map Prod.fst)), dbtR v1 Q2, Dev p γ σ]) (fun s => Q2.length - s.1) (0, .slice none 0 0) (Nat.zero_le _) (Sub.cons rfl (Sub.cons rfl (Sub.cons rfl Sub.nil))) (List.Perm.refl _) ?_
 intro s hs
 obtain ⟨k, vl⟩ := s
 dsimp only at hs ⊢
 have hln2 : (lensL ((Q2.take k).map Prod.fst)).length = k := by rw [List.length_map, List.length_map, List.length_take]; omega
 refine At.seq ?_
 refine tR ?_
 refine tM rfl rfl ?_
 refine tM rfl rfl ?_
 refine At.val (Val.lenDb (i := 1) rfl Try.underlying43 rfl) rfl rfl rfl ?_
 refine At.val (Val.bin rfl rfl rfl) rfl rfl rfl ?_
 refine tE ?_
 refine At.cond rfl (fun h4 => ?_) (fun h4 => ?_)
 ·skip
  try simp only [hasB, isSizeB, Bool.not_eq_true', Bool.not_eq_false', bne_iff_ne, ne_eq, bne_eq_false_iff_eq, beq_iff_eq, beq_eq_false_iff_ne, decide_eq_true_eq, decide_eq_false_iff_not, gt_iff_lt, ge_iff_le] at h4
  obtain ⟨x, hx⟩ : ∃ x, Q2[k]? = some x := ⟨_, List.getElem?_eq_getElem (by omega)⟩
  refine At.skipC ?_
  refine At.thenN ?_
  refine At.seq ?_
  refine At.block ?_
  refine At.region ?_
  refine tM rfl rfl ?_
  refine tM rfl rfl ?_
  refine tM rfl rfl ?_
  refine At.val (Val.indexDb (i := 1) (k * 3) (by omega) Try.underlying43 Try.sizeOf48 rfl rfl rfl (by omega) (by omega)) rfl rfl rfl ?_
  refine At.val (Val.field (k * 3 + 2) rfl fo_48_2 rfl) rfl rfl rfl ?_
  refine At.val (Val.loadDb (i := 1) 2 Try.isAgg36 rfl rfl rfl hx rfl) rfl rfl rfl ?_
  refine At.val (Val.lenNews (i := 1) rfl hx Try.underlying36 rfl) rfl rfl rfl ?_
  refine At.buildSl (fun a ha => by simp only [List.map_toArray, List.map_cons, List.map_nil, ha.eval (x := (.tmp 20)) rfl]; try rfl) (bs_23_1 _ ) rfl (fun b5 => ?_)
  refine At.appendI1 (i := 1) (j := 0) (c := (x.1.2.2.length : Int)) (by_ := 8) Try.underlying23 info_3 rfl rfl rfl rfl rfl rfl rfl rfl (by rw [hln2]; omega) (by rw [hln2]; omega) rfl (fun v6 => ?_)
  simp only [sc0, scS]
  refine At.drop 0 ?_
  simp only [ec0, ecS]
  refine tA rfl rfl ?_
  refine At.nil ?_
  refine At.blkN ?_
  refine At.thenN ?_
  refine At.region ?_
  refine tM rfl rfl ?_
  first | refine At.val (Val.addI rfl rfl (by omega) (by omega)) rfl rfl rfl ?_ | refine At.val (Val.bin rfl rfl rfl) rfl rfl rfl ?_
  refine tA rfl rfl ?_
  refine tE ?_
  exact At.again (k + 1, v6) (show k + 1 ≤ _ by omega) (by dsimp only; omega) (Sub.cons rfl (Sub.cons rfl (Sub.cons (congrArg (fun z => some (Value.int IntKind.i64 z)) (by omega)) Sub.nil))) (by dsimp only; rw [lens_take hx])
 ·skip
  try simp only [hasB, isSizeB, Bool.not_eq_true', Bool.not_eq_false', bne_iff_ne, ne_eq, bne_eq_false_iff_eq, beq_iff_eq, beq_eq_false_iff_ne, decide_eq_true_eq, decide_eq_false_iff_not, gt_iff_lt, ge_iff_le] at h4
  have hke : k = Q2.length := by omega
  refine At.exitC ?_
  refine At.thenX ?_
  refine At.thenX ?_
  refine At.blkX ?_
  refine At.thenN ?_
  refine tR ?_
  refine tM rfl rfl ?_
  refine tA rfl rfl ?_
  refine tE ?_
  refine At.retC ?_
  refine At.ret1 (.inl rfl) rfl rfl rfl (fun w hw => ?_)
  rw [hke, List.take_length, hQ3] at hw
  exact ⟨_, rfl, hw.drop (List.Sublist.refl _ |>.cons _ |>.cons_cons _)⟩

theorem only_n (K c : Nat) (w : World) (hK : K ≤ 65536) :
    NewRow Try.prog 30 [.int .i64 (K : Int), .int .i64 (c : Int)] 3 1 (onlyL K c).length ((onlyL K c).map (Value.int .i64)) w := by
 refine enter (feet []) [] Try.func30 rfl Try.ntmps30 rfl ⟨by simp, by simp, by simp, Mod.refl _ _⟩ ?_
 simp only [envOf]
 refine tR ?_
 refine tA rfl rfl ?_
 refine tE ?_
 refine tR ?_
 refine tA rfl rfl ?_
 refine At.nil ?_
 refine At.rowNilI 3 ?_
 refine At.thenN ?_
 refine At.seq ?_
 refine tR ?_
 refine tA rfl rfl ?_
 refine tE ?_
 refine At.block ?_
 skip
 refine At.loop (σ := Nat × Value) (fun s => s.1 ≤ K) (fun s => [(0, .int .i64 (K : Int)), (1, .int .i64 (c : Int)), (5, s.2), (6, .int .i64 (s.1 : Int))]) (fun s => [irow 3 s.2 (List.replicate s.1 0)]) (fun s => K - s.1) (0, .slice none 0 0) (Nat.zero_le _) (Sub.cons rfl (Sub.cons rfl (Sub.cons rfl (Sub.cons rfl Sub.nil)))) (List.Perm.refl _) ?_
 intro s hs
 obtain ⟨i, vl⟩ := s
 dsimp only at hs ⊢
 refine At.seq ?_
 refine tR ?_
 refine tM rfl rfl ?_
 refine tM rfl rfl ?_
 refine At.val (Val.bin rfl rfl rfl) rfl rfl rfl ?_
 refine tE ?_
 refine At.cond rfl (fun h1 => ?_) (fun h1 => ?_)
 ·skip
  try simp only [hasB, isSizeB, Bool.not_eq_true', Bool.not_eq_false', bne_iff_ne, ne_eq, bne_eq_false_iff_eq, beq_iff_eq, beq_eq_false_iff_ne, decide_eq_true_eq, decide_eq_false_iff_not, gt_iff_lt, ge_iff_le] at h1
  refine At.skipC ?_
  refine At.thenN ?_
  refine At.seq ?_
  refine At.block ?_
  refine At.region ?_
  refine tM rfl rfl ?_
  refine At.buildSl (fun a ha => by simp only [List.map_toArray, List.map_cons, List.map_nil, ha.eval (x := (.const (.int .i64 (0)))) rfl]; try rfl) (bs_23_1 _ ) rfl (fun b2 => ?_)
  refine At.appendI1 (i := 1) (j := 0) (c := 0) (by_ := 8) Try.underlying23 info_3 rfl rfl rfl rfl rfl rfl rfl rfl (by rw [List.length_replicate]; omega) (by rw [List.length_replicate]; omega) rfl (fun v3 => ?_)
  simp only [sc0, scS]
  refine At.drop 0 ?_
  simp only [ec0, ecS]
  refine tA rfl rfl ?_
  refine At.nil ?_
  refine At.blkN ?_
  refine At.thenN ?_
  refine At.region ?_
  refine tM rfl rfl ?_
  first | refine At.val (Val.addI rfl rfl (by omega) (by omega)) rfl rfl rfl ?_ | refine At.val (Val.bin rfl rfl rfl) rfl rfl rfl ?_
  refine tA rfl rfl ?_
  refine tE ?_
  exact At.again (i + 1, v3) (show i + 1 ≤ _ by omega) (by dsimp only; omega) (Sub.cons rfl (Sub.cons rfl (Sub.cons rfl (Sub.cons (congrArg (fun z => some (Value.int IntKind.i64 z)) (by omega)) Sub.nil)))) (by dsimp only; rw [rep_snoc])
 ·skip
  try simp only [hasB, isSizeB, Bool.not_eq_true', Bool.not_eq_false', bne_iff_ne, ne_eq, bne_eq_false_iff_eq, beq_iff_eq, beq_eq_false_iff_ne, decide_eq_true_eq, decide_eq_false_iff_not, gt_iff_lt, ge_iff_le] at h1
  obtain rfl : i = K := by omega
  refine At.exitC ?_
  refine At.thenX ?_
  refine At.thenX ?_
  refine At.blkX ?_
  refine At.thenN ?_
  refine tR ?_
  refine tM rfl rfl ?_
  refine tM rfl rfl ?_
  refine At.buildSl (fun a ha => by simp only [List.map_toArray, List.map_cons, List.map_nil, ha.eval (x := (.tmp 16)) rfl]; try rfl) (bs_23_1 _ ) rfl (fun b4 => ?_)
  refine At.appendI1 (i := 1) (j := 0) (c := (c : Int)) (by_ := 8) Try.underlying23 info_3 rfl rfl rfl rfl rfl rfl rfl rfl (by rw [List.length_replicate]; omega) (by rw [List.length_replicate]; omega) rfl (fun v5 => ?_)
  simp only [sc0, scS]
  refine At.drop 0 ?_
  simp only [ec0, ecS]
  refine tA rfl rfl ?_
  refine tE ?_
  refine tR ?_
  refine tM rfl rfl ?_
  refine tA rfl rfl ?_
  refine tE ?_
  refine At.retC ?_
  refine At.ret1 (.inl rfl) rfl rfl rfl (fun w hw => ?_)
  exact ⟨_, rfl, hw⟩

theorem lawTold_p (pg z : Int) (v1 : Value) (L : List Nt) (w : World) (hv1 : RdN w v1 L) (hl1 : L.length ≤ 8796093022144) :
    PureC Try.prog 4 [.int .i64 pg, v1, .int .i64 z] (.bool true) w := by
 refine enter0 Try.func4 rfl Try.ntmps4 rfl ?_
 obtain ⟨N, hNe⟩ : ∃ N, N = sizeW pg := ⟨_, rfl⟩
 obtain ⟨hN1, hN2, hN3⟩ := sizeW_ok pg
 have hsz := sizeW_size pg
 rw [← hNe] at hN1 hN2 hN3 hsz
 have hN0 : 0 < N := by omega
 simp only [envOf]
 refine tR ?_
 refine tA rfl rfl ?_
 refine tE ?_
 refine tR ?_
 refine tM rfl rfl ?_
 refine At.callP (fun w hw => size_p _ w) Try.call18 rfl rfl ?_
 refine tA rfl rfl ?_
 refine At.nil ?_
 rw [← hNe]
 refine At.thenN ?_
 refine tR ?_
 refine tM rfl rfl ?_
 refine At.callNB (fun w hw => made_d _ N w hsz rfl) Try.call19 rfl rfl (fun p1 y2 => ?_)
 refine tM rfl rfl ?_
 refine At.val (Val.extract rfl rfl) rfl rfl rfl ?_
 refine At.val (Val.extract rfl rfl) rfl rfl rfl ?_
 refine tA rfl rfl ?_
 refine tA rfl rfl ?_
 refine tE ?_
 refine At.seq ?_
 refine tR ?_
 refine tM rfl rfl ?_
 refine At.val (Val.not rfl) rfl rfl rfl ?_
 refine tE ?_
 refine At.condF rfl ?_
 refine At.skipC ?_
 refine At.thenN ?_
 refine tR ?_
 refine tM rfl rfl ?_
 refine tM rfl rfl ?_
 refine tM rfl rfl ?_
 refine At.callD 0 rfl (fun w hw hr => notes_d _ _ _ v1 L N w (hv1.mod hw.mod) (hv1.off (hw.newFoot (List.mem_of_getElem? (i := 0) rfl))) (zeroD_len N) rfl (by show 0 + 400 ≤ _; omega) hl1 hr) Try.call26 rfl rfl (fun y3 => ?_)
 simp only [sc0, scS]
 refine tA rfl rfl ?_
 refine At.nil ?_
 have hgw : ∀ u ∈ (run N (zeroD N) (L.take 400)).ws, u.news.length ≤ 400 := news_le hN0 _ (by rw [List.length_take]; omega)
 obtain ⟨hst, har, hle⟩ := run_rest hN0 (L.take 400) (zeroD N) (zeroD_len N) rfl
 have hst' : (run N (zeroD N) (L.take 400)).steps ≤ 400 := by rw [hst, List.length_take]; show 0 + _ ≤ _; omega
 generalize run N (zeroD N) (L.take 400) = σ1 at *
 have hXl : (wbytes (picked σ1.ws (pkC σ1.ws []))).length = 8 * N := by rw [wbytes_length, picked_length, hle]
 refine At.thenN ?_
 refine At.seq ?_
 refine tR ?_
 refine tM rfl rfl ?_
 refine At.val (Val.not rfl) rfl rfl rfl ?_
 refine tE ?_
 refine At.condF rfl ?_
 refine At.skipC ?_
 refine At.thenN ?_
 refine tR ?_
 refine tM rfl rfl ?_
 refine At.callDB 0 rfl (fun w hw hr => doubts_k _ _ _ w hr) Try.call27 rfl rfl (fun v4 Q5 hQ6 => ?_)
 refine tA rfl rfl ?_
 refine At.nil ?_
 have hQl : Q5.length ≤ 512 := by have h1 := congrArg List.length hQ6; rw [List.length_map, dts_length] at h1; have h2 := dk_le σ1.ws; omega
 refine At.thenN ?_
 refine tR ?_
 refine tM rfl rfl ?_
 refine At.callRK 1 rfl (fun w hw hr => crash_k _ _ _ (.slice none 0 0) [] w (Rd.nil w 1) (fun h => absurd rfl h) hr) Try.call21 rfl rfl (fun v7 => ?_)
 refine tA rfl rfl ?_
 refine tE ?_
 refine At.seq ?_
 refine tR ?_
 refine tM rfl rfl ?_
 refine At.val (Val.lenRow (i := 0) Try.underlying33 rfl rfl) rfl rfl rfl ?_
 refine tM rfl rfl ?_
 refine At.val (Val.bin rfl rfl rfl) rfl rfl rfl ?_
 refine tM rfl rfl ?_
 refine At.split (t := 45) rfl (fun h8 => ?_) (fun h8 => ?_)
 ·skip
  try simp only [hasB, isSizeB, Bool.not_eq_true', Bool.not_eq_false', bne_iff_ne, ne_eq, bne_eq_false_iff_eq, beq_iff_eq, beq_eq_false_iff_ne, decide_eq_true_eq, decide_eq_false_iff_not, gt_iff_lt, ge_iff_le] at h8
  rw [hXl] at h8; omega
 ·skip
  try simp only [hasB, isSizeB, Bool.not_eq_true', Bool.not_eq_false', bne_iff_ne, ne_eq, bne_eq_false_iff_eq, beq_iff_eq, beq_eq_false_iff_ne, decide_eq_true_eq, decide_eq_false_iff_not, gt_iff_lt, ge_iff_le] at h8
  refine At.yes rfl rfl ?_
  refine tM rfl rfl ?_
  refine At.yes rfl rfl ?_
  refine tM rfl rfl ?_
  refine At.yes rfl rfl ?_
  refine At.callRK 2 rfl (fun w hw hr => lasts_k _ _ _ w hr) Try.call29 rfl rfl (fun v9 => ?_)
  refine At.yes rfl rfl ?_
  refine At.callRK 3 rfl (fun w hw hr => crash_k _ _ _ _ (lensL (dts σ1.ws)) w (row_rd (hw.row (i := 0) rfl) (by decide)) (hw.offRow (i := 0) (j := 3) rfl rfl (by decide)) hr) Try.call21 rfl rfl (fun v10 => ?_)
  refine At.yes rfl rfl ?_
  refine tM rfl rfl ?_
  refine At.yes rfl rfl ?_
  refine At.callRK 4 rfl (fun w hw hr => view_k _ _ _ w hr) Try.call22 rfl rfl (fun v11 => ?_)
  refine At.yes rfl rfl ?_
  refine At.callP (fun w hw => sameBytes_p _ _ _ _ w (row_rd (hw.row (i := 1) rfl) (by decide)) (row_rd (hw.row (i := 0) rfl) (by decide)) (by rw [wbytes_length, picked_length]; omega) (by rw [wbytes_length, viewWs, List.length_map]; omega)) Try.call28 rfl rfl ?_
  rw [picked_lasts, decide_eq_true rfl]
  ·skip
   refine At.yes rfl rfl ?_
   refine At.val (Val.not rfl) rfl rfl rfl ?_
   refine At.val (Val.pickF rfl rfl) rfl rfl rfl ?_
   refine tE ?_
   refine At.condF rfl ?_
   refine At.skipC ?_
   refine At.thenN ?_
   refine At.seq ?_
   refine tR ?_
   refine tA rfl rfl ?_
   refine tE ?_
   refine At.block ?_
   skip
   refine At.loop (σ := Nat) (fun i => i ≤ Q5.length) (fun i => [(2, .int .i64 z), (7, .int .i64 (8 * (N : Int))), (8, .pointer (some ⟨p1, 0, none⟩)), (10, v4), (11, v7), (12, .int .i64 (i : Int))]) (fun i => [rowR v11 5 1 ((wbytes (viewWs (σ1).ws)).length) ((wbytes (viewWs (σ1).ws)).map bv), rowR v10 5 1 ((wbytes (picked σ1.ws (pkC σ1.ws (lensL (dts σ1.ws))))).length) ((wbytes (picked σ1.ws (pkC σ1.ws (lensL (dts σ1.ws))))).map bv), rowR v9 3 1 ((lensL (dts σ1.ws)).length) ((lensL (dts σ1.ws)).map (Value.int .i64)), rowR v7 5 1 ((wbytes (picked σ1.ws (pkC σ1.ws []))).length) ((wbytes (picked σ1.ws (pkC σ1.ws []))).map bv), dbtR v4 Q5, Dev p1 y3 (σ1)]) (fun i => Q5.length - i) 0 (Nat.zero_le _) (Sub.cons rfl (Sub.cons rfl (Sub.cons rfl (Sub.cons rfl (Sub.cons rfl (Sub.cons rfl Sub.nil)))))) (by rw [picked_lasts]) ?_
   intro i hs
   refine At.seq ?_
   refine tR ?_
   refine tM rfl rfl ?_
   refine tM rfl rfl ?_
   refine At.val (Val.lenDb (i := 4) rfl Try.underlying43 rfl) rfl rfl rfl ?_
   refine At.val (Val.bin rfl rfl rfl) rfl rfl rfl ?_
   refine tE ?_
   refine At.cond rfl (fun h12 => ?_) (fun h12 => ?_)
   ·skip
    try simp only [hasB, isSizeB, Bool.not_eq_true', Bool.not_eq_false', bne_iff_ne, ne_eq, bne_eq_false_iff_eq, beq_iff_eq, beq_eq_false_iff_ne, decide_eq_true_eq, decide_eq_false_iff_not, gt_iff_lt, ge_iff_le] at h12
    obtain ⟨⟨xa, xs⟩, hx⟩ : ∃ x, Q5[i]? = some x := ⟨_, List.getElem?_eq_getElem (by omega)⟩
    obtain ⟨k, wd, hkK, hk, hn, hxe⟩ := doubt_at hQ6 hx
    simp only at hxe
    subst hxe
    have hkl := (List.getElem?_eq_some_iff.1 hk).1
    have hpos := List.length_pos_iff.2 hn
    refine At.skipC ?_
    refine At.thenN ?_
    refine At.seq ?_
    refine At.block ?_
    refine tR ?_
    refine tM rfl rfl ?_
    refine tM rfl rfl ?_
    refine tM rfl rfl ?_
    refine At.val (Val.indexDb (i := 4) (i * 3) (by omega) Try.underlying43 Try.sizeOf48 rfl rfl rfl (by omega) (by omega)) rfl rfl rfl ?_
    refine At.val (Val.field (i * 3 + 0) rfl fo_48_0 rfl) rfl rfl rfl ?_
    refine At.val (Val.loadDb (i := 4) 0 Try.isAgg3 rfl rfl rfl hx rfl) rfl rfl rfl ?_
    refine At.callP (fun w hw => at8_w _ _ _ w (row_rd (hw.row (i := 3) rfl) (by decide)) (by rw [wbytes_length, picked_length]; omega) (by rw [wbytes_length, picked_length]; omega)) Try.call24 rfl rfl ?_
    have hwo : (picked σ1.ws (pkC σ1.ws []))[k]? = some wd.old := by rw [picked_new hkK, pkC_at hk, pickC_zero (.inl rfl)]
    rw [wbytes_word hwo]
    ·skip
     refine tM rfl rfl ?_
     refine At.val (Val.extract rfl rfl) rfl rfl rfl ?_
     refine At.val (Val.extract rfl rfl) rfl rfl rfl ?_
     refine tA rfl rfl ?_
     refine tA rfl rfl ?_
     refine tE ?_
     refine At.seq ?_
     refine At.quiet rfl (by decide +kernel) ?_
     refine qM rfl rfl ?_
     refine QAt.val (Val.not rfl) rfl rfl rfl ?_
     refine qM rfl rfl ?_
     refine QAt.yes rfl rfl ?_
     refine qM rfl rfl ?_
     refine QAt.yes rfl rfl ?_
     refine qM rfl rfl ?_
     refine QAt.yes rfl rfl ?_
     refine qM rfl rfl ?_
     refine QAt.yes rfl rfl ?_
     refine QAt.val (Val.indexDb (i := 4) (i * 3) (by omega) Try.underlying43 Try.sizeOf48 rfl rfl rfl (by omega) (by omega)) rfl rfl rfl ?_
     refine QAt.yes rfl rfl ?_
     refine QAt.val (Val.field (i * 3 + 1) rfl fo_48_1 rfl) rfl rfl rfl ?_
     refine QAt.yes rfl rfl ?_
     refine QAt.val (Val.loadDb (i := 4) 1 Try.isAgg30 rfl rfl rfl hx rfl) rfl rfl rfl ?_
     refine QAt.yes rfl rfl ?_
     refine QAt.val (Val.bin rfl rfl rfl) rfl rfl rfl ?_
     rw [bne_self_eq_false]
     refine QAt.val (Val.pickF rfl rfl) rfl rfl rfl ?_
     refine qM rfl rfl ?_
     refine QAt.yes rfl rfl ?_
     refine qM rfl rfl ?_
     refine QAt.yes rfl rfl ?_
     refine qM rfl rfl ?_
     refine QAt.yes rfl rfl ?_
     refine QAt.val (Val.indexDb (i := 4) (i * 3) (by omega) Try.underlying43 Try.sizeOf48 rfl rfl rfl (by omega) (by omega)) rfl rfl rfl ?_
     refine QAt.yes rfl rfl ?_
     refine QAt.val (Val.field (i * 3 + 2) rfl fo_48_2 rfl) rfl rfl rfl ?_
     refine QAt.yes rfl rfl ?_
     refine QAt.val (Val.loadDb (i := 4) 2 Try.isAgg36 rfl rfl rfl hx rfl) rfl rfl rfl ?_
     refine QAt.yes rfl rfl ?_
     refine QAt.val (Val.lenNews (i := 4) rfl hx Try.underlying36 rfl) rfl rfl rfl ?_
     refine QAt.yes rfl rfl ?_
     refine QAt.val (Val.bin rfl rfl rfl) rfl rfl rfl ?_
     rw [show (((wd.news.length : Nat) : Int) == 0) = false from beq_eq_false_iff_ne.2 (by omega)]
     refine QAt.val (Val.pickF rfl rfl) rfl rfl rfl ?_
     refine QAt.weaken [(2, _), (7, _), (8, _), (10, _), (11, _), (12, _), (55, _), (56, _), (57, _), (58, _), (62, _), (63, _), (64, _), (65, _), (66, _), (67, _), (68, _), (61, _), (69, _), (70, _), (90, _)] (Sub.cons rfl (Sub.cons rfl (Sub.cons rfl (Sub.cons rfl (Sub.cons rfl (Sub.cons rfl (Sub.cons rfl (Sub.cons rfl (Sub.cons rfl (Sub.cons rfl (Sub.cons rfl (Sub.cons rfl (Sub.cons rfl (Sub.cons rfl (Sub.cons rfl (Sub.cons rfl (Sub.cons rfl (Sub.cons rfl (Sub.cons rfl (Sub.cons rfl (Sub.cons rfl Sub.nil))))))))))))))))))))) ?_
     refine QAt.boolMeet 18 108 (false) ?_ ?_
     ·skip
      simp only [List.take_succ_cons, List.take_zero]
      refine qM rfl rfl ?_
      refine QAt.yes rfl rfl ?_
      refine qM rfl rfl ?_
      refine QAt.yes rfl rfl ?_
      refine QAt.val (Val.bin rfl rfl rfl) rfl rfl rfl ?_
      refine QAt.yes rfl rfl ?_
      refine qM rfl rfl ?_
      refine QAt.split (t := 94) rfl (fun h13 => ?_) (fun h13 => ?_)
      ·skip
       try simp only [hasB, isSizeB, Bool.not_eq_true', Bool.not_eq_false', bne_iff_ne, ne_eq, bne_eq_false_iff_eq, beq_iff_eq, beq_eq_false_iff_ne, decide_eq_true_eq, decide_eq_false_iff_not, gt_iff_lt, ge_iff_le] at h13
       obtain ⟨⟨ya, ys⟩, hy⟩ : ∃ y, Q5[i - 1]? = some y := ⟨_, List.getElem?_eq_getElem (by omega)⟩
       obtain ⟨k', wd', hkK', hk', hn', hye⟩ := doubt_at hQ6 hy
       simp only at hye
       subst hye
       have hlt := dk_lt (show i - 1 < i by omega) hkK' hkK
       refine QAt.yes rfl rfl ?_
       refine qM rfl rfl ?_
       refine QAt.yes rfl rfl ?_
       refine qM rfl rfl ?_
       refine QAt.yes rfl rfl ?_
       refine QAt.val (Val.indexDb (i := 4) (i * 3) (by omega) Try.underlying43 Try.sizeOf48 rfl rfl rfl (by omega) (by omega)) rfl rfl rfl ?_
       refine QAt.yes rfl rfl ?_
       refine QAt.val (Val.field (i * 3 + 0) rfl fo_48_0 rfl) rfl rfl rfl ?_
       refine QAt.yes rfl rfl ?_
       refine QAt.val (Val.loadDb (i := 4) 0 Try.isAgg3 rfl rfl rfl hx rfl) rfl rfl rfl ?_
       refine QAt.yes rfl rfl ?_
       refine qM rfl rfl ?_
       refine QAt.yes rfl rfl ?_
       refine qM rfl rfl ?_
       refine QAt.yes rfl rfl ?_
       first | refine QAt.val (Val.subI rfl rfl (by omega) (by omega)) rfl rfl rfl ?_ | refine QAt.val (Val.bin rfl rfl rfl) rfl rfl rfl ?_
       refine QAt.yes rfl rfl ?_
       refine QAt.val (Val.indexDb (i := 4) ((i - 1) * 3) (by omega) Try.underlying43 Try.sizeOf48 rfl rfl rfl (by omega) (by omega)) rfl rfl rfl ?_
       refine QAt.yes rfl rfl ?_
       refine QAt.val (Val.field ((i - 1) * 3 + 0) rfl fo_48_0 rfl) rfl rfl rfl ?_
       refine QAt.yes rfl rfl ?_
       refine QAt.val (Val.loadDb (i := 4) 0 Try.isAgg3 rfl rfl rfl hy rfl) rfl rfl rfl ?_
       refine QAt.yes rfl rfl ?_
       refine QAt.val (Val.bin rfl rfl rfl) rfl rfl rfl ?_
       rw [decide_eq_false (show ¬ 8 * (k : Int) ≤ 8 * (k' : Int) by omega)]
       refine QAt.yes rfl rfl ?_
       refine QAt.val (Val.pickT rfl rfl) rfl rfl rfl ?_
       refine QAt.val (Val.pickF rfl rfl) rfl rfl rfl ?_
       exact QAt.boolEnd rfl (by first | exact (decide_eq_true (by omega)).symm | exact (decide_eq_false (by omega)).symm | (apply Bool.eq_iff_iff.2; simp only [decide_eq_true_eq, beq_iff_eq, bne_iff_ne, ne_eq, Bool.not_eq_true', decide_eq_false_iff_not]; omega) | rfl | (simp_all; done) | (simp_all; omega)) (by repeat (first | exact Sub.nil | refine Sub.cons rfl ?_))
      ·skip
       try simp only [hasB, isSizeB, Bool.not_eq_true', Bool.not_eq_false', bne_iff_ne, ne_eq, bne_eq_false_iff_eq, beq_iff_eq, beq_eq_false_iff_ne, decide_eq_true_eq, decide_eq_false_iff_not, gt_iff_lt, ge_iff_le] at h13
       refine QAt.no rfl rfl rfl rfl ?_
       refine QAt.no rfl rfl rfl rfl ?_
       refine QAt.no rfl rfl rfl rfl ?_
       refine QAt.no rfl rfl rfl rfl ?_
       refine QAt.no rfl rfl rfl rfl ?_
       refine QAt.no rfl rfl rfl rfl ?_
       refine QAt.no rfl rfl rfl rfl ?_
       refine QAt.no rfl rfl rfl rfl ?_
       refine QAt.no rfl rfl rfl rfl ?_
       refine QAt.no rfl rfl rfl rfl ?_
       refine QAt.no rfl rfl rfl rfl ?_
       refine QAt.no rfl rfl rfl rfl ?_
       refine QAt.yes rfl rfl ?_
       refine QAt.val (Val.pickF rfl rfl) rfl rfl rfl ?_
       refine QAt.val (Val.pickF rfl rfl) rfl rfl rfl ?_
       exact QAt.boolEnd rfl (by first | exact (decide_eq_true (by omega)).symm | exact (decide_eq_false (by omega)).symm | (apply Bool.eq_iff_iff.2; simp only [decide_eq_true_eq, beq_iff_eq, bne_iff_ne, ne_eq, Bool.not_eq_true', decide_eq_false_iff_not]; omega) | rfl | (simp_all; done) | (simp_all; omega)) (by repeat (first | exact Sub.nil | refine Sub.cons rfl ?_))
     ·skip
      simp only [List.drop_succ_cons, List.drop_zero]
      refine QAt.fin ?_
      refine At.thenN ?_
      refine At.cond rfl (fun h14 => ?_) (fun h14 => ?_)
      ·skip
       try simp only [hasB, isSizeB, Bool.not_eq_true', Bool.not_eq_false', bne_iff_ne, ne_eq, bne_eq_false_iff_eq, beq_iff_eq, beq_eq_false_iff_ne, decide_eq_true_eq, decide_eq_false_iff_not, gt_iff_lt, ge_iff_le] at h14
       cases h14
      ·skip
       try simp only [hasB, isSizeB, Bool.not_eq_true', Bool.not_eq_false', bne_iff_ne, ne_eq, bne_eq_false_iff_eq, beq_iff_eq, beq_eq_false_iff_ne, decide_eq_true_eq, decide_eq_false_iff_not, gt_iff_lt, ge_iff_le] at h14
       refine At.skipC ?_
       refine At.blkN ?_
       refine At.thenN ?_
       refine At.region ?_
       refine tM rfl rfl ?_
       first | refine At.val (Val.addI rfl rfl (by omega) (by omega)) rfl rfl rfl ?_ | refine At.val (Val.bin rfl rfl rfl) rfl rfl rfl ?_
       refine tA rfl rfl ?_
       refine tE ?_
       exact At.again (i + 1) (show i + 1 ≤ _ by omega) (by omega) (Sub.cons rfl (Sub.cons rfl (Sub.cons rfl (Sub.cons rfl (Sub.cons rfl (Sub.cons (congrArg (fun z => some (Value.int IntKind.i64 z)) (by omega)) Sub.nil)))))) (List.Perm.refl _)
   ·skip
    try simp only [hasB, isSizeB, Bool.not_eq_true', Bool.not_eq_false', bne_iff_ne, ne_eq, bne_eq_false_iff_eq, beq_iff_eq, beq_eq_false_iff_ne, decide_eq_true_eq, decide_eq_false_iff_not, gt_iff_lt, ge_iff_le] at h12
    refine At.exitC ?_
    refine At.thenX ?_
    refine At.thenX ?_
    refine At.blkX ?_
    refine At.thenN ?_
    refine At.seq ?_
    refine tR ?_
    refine tM rfl rfl ?_
    refine At.val (Val.lenDb (i := 4) rfl Try.underlying43 rfl) rfl rfl rfl ?_
    refine At.val (Val.bin rfl rfl rfl) rfl rfl rfl ?_
    refine tE ?_
    refine At.cond rfl (fun h15 => ?_) (fun h15 => ?_)
    ·skip
     try simp only [hasB, isSizeB, Bool.not_eq_true', Bool.not_eq_false', bne_iff_ne, ne_eq, bne_eq_false_iff_eq, beq_iff_eq, beq_eq_false_iff_ne, decide_eq_true_eq, decide_eq_false_iff_not, gt_iff_lt, ge_iff_le] at h15
     refine tR ?_
     refine tA rfl rfl ?_
     refine tE ?_
     refine At.retC ?_
     refine At.thenR ?_
     refine At.ret1 (.inl rfl) rfl rfl rfl (fun w hw => ?_)
     exact ⟨rfl, hw.mod⟩
    ·skip
     try simp only [hasB, isSizeB, Bool.not_eq_true', Bool.not_eq_false', bne_iff_ne, ne_eq, bne_eq_false_iff_eq, beq_iff_eq, beq_eq_false_iff_ne, decide_eq_true_eq, decide_eq_false_iff_not, gt_iff_lt, ge_iff_le] at h15
     refine At.skipC ?_
     refine At.thenN ?_
     refine tR ?_
     refine tM rfl rfl ?_
     refine tM rfl rfl ?_
     refine At.val (Val.lenDb (i := 4) rfl Try.underlying43 rfl) rfl rfl rfl ?_
     first | refine At.val (Val.mulI rfl rfl (by omega) (by omega)) rfl rfl rfl ?_ | refine At.val (Val.bin rfl rfl rfl) rfl rfl rfl ?_
     refine At.callP (fun w hw => word_p _ Q5.length w (by omega) (by omega)) Try.call23 rfl rfl ?_
     obtain ⟨K, hKe⟩ : ∃ K, K = wordI z Q5.length := ⟨_, rfl⟩
     have hKl := wordI_lt z (N := Q5.length) (by omega)
     rw [← hKe] at hKl ⊢
     refine At.val (Val.quoI rfl rfl (by omega) (by omega) (by decide)) rfl rfl rfl ?_
     rw [show 8 * (K : Int) / 8 = (K : Int) from by omega]
     refine tA rfl rfl ?_
     refine At.nil ?_
     obtain ⟨⟨xa, xs⟩, hx⟩ : ∃ x, Q5[K]? = some x := ⟨_, List.getElem?_eq_getElem (by omega)⟩
     obtain ⟨k, wd, hkK, hk, hn, hxe⟩ := doubt_at hQ6 hx
     simp only at hxe
     subst hxe
     have hkl := (List.getElem?_eq_some_iff.1 hk).1
     have hpos := List.length_pos_iff.2 hn
     have hK16 : K ≤ 65536 := by omega
     have hnl : wd.news.length ≤ 400 := by have h1 := (hgw wd (List.mem_of_getElem? hk)); omega
     refine At.thenN ?_
     refine At.seq ?_
     refine tR ?_
     refine tA rfl rfl ?_
     refine tE ?_
     refine At.block ?_
     skip
     refine At.loop (σ := Nat) (fun c => c ≤ wd.news.length + 1) (fun c => [(7, .int .i64 (8 * (N : Int))), (8, .pointer (some ⟨p1, 0, none⟩)), (10, v4), (11, v7), (15, .int .i64 (K : Int)), (16, .int .i64 (c : Int))]) (fun c => [rowR v11 5 1 ((wbytes (viewWs (σ1).ws)).length) ((wbytes (viewWs (σ1).ws)).map bv), rowR v10 5 1 ((wbytes (picked σ1.ws (pkC σ1.ws (lensL (dts σ1.ws))))).length) ((wbytes (picked σ1.ws (pkC σ1.ws (lensL (dts σ1.ws))))).map bv), rowR v9 3 1 ((lensL (dts σ1.ws)).length) ((lensL (dts σ1.ws)).map (Value.int .i64)), rowR v7 5 1 ((wbytes (picked σ1.ws (pkC σ1.ws []))).length) ((wbytes (picked σ1.ws (pkC σ1.ws []))).map bv), dbtR v4 Q5, Dev p1 y3 (σ1)]) (fun c => wd.news.length + 1 - c) 0 (Nat.zero_le _) (Sub.cons rfl (Sub.cons rfl (Sub.cons rfl (Sub.cons rfl (Sub.cons rfl (Sub.cons rfl Sub.nil)))))) (List.Perm.refl _) ?_
     intro c hs
     refine At.seq ?_
     refine tR ?_
     refine tM rfl rfl ?_
     refine tM rfl rfl ?_
     refine tM rfl rfl ?_
     refine At.val (Val.indexDb (i := 4) (K * 3) (by omega) Try.underlying43 Try.sizeOf48 rfl rfl rfl (by omega) (by omega)) rfl rfl rfl ?_
     refine At.val (Val.field (K * 3 + 2) rfl fo_48_2 rfl) rfl rfl rfl ?_
     refine At.val (Val.loadDb (i := 4) 2 Try.isAgg36 rfl rfl rfl hx rfl) rfl rfl rfl ?_
     refine At.val (Val.lenNews (i := 4) rfl hx Try.underlying36 rfl) rfl rfl rfl ?_
     refine At.val (Val.bin rfl rfl rfl) rfl rfl rfl ?_
     refine tE ?_
     refine At.cond rfl (fun h16 => ?_) (fun h16 => ?_)
     ·skip
      try simp only [hasB, isSizeB, Bool.not_eq_true', Bool.not_eq_false', bne_iff_ne, ne_eq, bne_eq_false_iff_eq, beq_iff_eq, beq_eq_false_iff_ne, decide_eq_true_eq, decide_eq_false_iff_not, gt_iff_lt, ge_iff_le] at h16
      have hcl : c ≤ wd.news.length := by omega
      have hpo := picked_only (c := c) hkK hk hcl
      have hwc : (picked σ1.ws (pkC σ1.ws (onlyL K c)))[k]? = some (valC wd c) := by rw [hpo, List.getElem?_set_self (by rw [picked_length]; exact hkl)]
      have hXcl : (wbytes (picked σ1.ws (pkC σ1.ws (onlyL K c)))).length = 8 * N := by rw [wbytes_length, picked_length, hle]
      refine At.skipC ?_
      refine At.thenN ?_
      refine At.seq ?_
      refine At.block ?_
      refine tR ?_
      refine tM rfl rfl ?_
      refine tM rfl rfl ?_
      refine At.val (Val.indexDb (i := 4) (K * 3) (by omega) Try.underlying43 Try.sizeOf48 rfl rfl rfl (by omega) (by omega)) rfl rfl rfl ?_
      refine At.val (Val.field (K * 3 + 1) rfl fo_48_1 rfl) rfl rfl rfl ?_
      refine At.val (Val.loadDb (i := 4) 1 Try.isAgg30 rfl rfl rfl hx rfl) rfl rfl rfl ?_
      refine tA rfl rfl ?_
      refine tE ?_
      refine At.join (σ := Unit) (fun u => True) (fun u => [(7, .int .i64 (8 * (N : Int))), (8, .pointer (some ⟨p1, 0, none⟩)), (10, v4), (11, v7), (15, .int .i64 (K : Int)), (16, .int .i64 (c : Int)), (17, b64 (valC wd c))]) (fun u => [rowR v11 5 1 ((wbytes (viewWs (σ1).ws)).length) ((wbytes (viewWs (σ1).ws)).map bv), rowR v10 5 1 ((wbytes (picked σ1.ws (pkC σ1.ws (lensL (dts σ1.ws))))).length) ((wbytes (picked σ1.ws (pkC σ1.ws (lensL (dts σ1.ws))))).map bv), rowR v9 3 1 ((lensL (dts σ1.ws)).length) ((lensL (dts σ1.ws)).map (Value.int .i64)), rowR v7 5 1 ((wbytes (picked σ1.ws (pkC σ1.ws []))).length) ((wbytes (picked σ1.ws (pkC σ1.ws []))).map bv), dbtR v4 Q5, Dev p1 y3 (σ1)]) ?_ ?_
      ·skip
       refine tR ?_
       refine tM rfl rfl ?_
       refine At.val (Val.bin rfl rfl rfl) rfl rfl rfl ?_
       refine tE ?_
       refine At.cond rfl (fun h17 => ?_) (fun h17 => ?_)
       ·skip
        try simp only [hasB, isSizeB, Bool.not_eq_true', Bool.not_eq_false', bne_iff_ne, ne_eq, bne_eq_false_iff_eq, beq_iff_eq, beq_eq_false_iff_ne, decide_eq_true_eq, decide_eq_false_iff_not, gt_iff_lt, ge_iff_le] at h17
        refine At.region ?_
        refine tM rfl rfl ?_
        refine tM rfl rfl ?_
        refine At.val (Val.indexDb (i := 4) (K * 3) (by omega) Try.underlying43 Try.sizeOf48 rfl rfl rfl (by omega) (by omega)) rfl rfl rfl ?_
        refine At.val (Val.field (K * 3 + 2) rfl fo_48_2 rfl) rfl rfl rfl ?_
        refine At.val (Val.loadDb (i := 4) 2 Try.isAgg36 rfl rfl rfl hx rfl) rfl rfl rfl ?_
        refine tM rfl rfl ?_
        first | refine At.val (Val.subI rfl rfl (by omega) (by omega)) rfl rfl rfl ?_ | refine At.val (Val.bin rfl rfl rfl) rfl rfl rfl ?_
        obtain ⟨zv, hzv⟩ : ∃ zv, wd.news[c - 1]? = some zv := ⟨_, List.getElem?_eq_getElem (by omega)⟩
        refine At.val (Val.indexNews (i := 4) (c - 1) (by omega) rfl hx Try.underlying36 Try.sizeOf30 rfl rfl (by omega) (show _ < ((wd.news.length : Nat) : Int) by omega)) rfl rfl rfl ?_
        refine At.val (Val.loadNewsD (i := 4) Try.isAgg30 rfl rfl hx hzv) rfl rfl rfl ?_
        refine tA rfl rfl ?_
        refine tE ?_
        exact At.meets () trivial (Sub.cons rfl (Sub.cons rfl (Sub.cons rfl (Sub.cons rfl (Sub.cons rfl (Sub.cons rfl (Sub.cons (congrArg (fun z : BitVec 64 => some (b64 z)) (show _ = valC wd c from by unfold valC; rw [if_neg (by omega), hzv]; rfl)) Sub.nil))))))) (List.Perm.refl _)
       ·skip
        try simp only [hasB, isSizeB, Bool.not_eq_true', Bool.not_eq_false', bne_iff_ne, ne_eq, bne_eq_false_iff_eq, beq_iff_eq, beq_eq_false_iff_ne, decide_eq_true_eq, decide_eq_false_iff_not, gt_iff_lt, ge_iff_le] at h17
        refine At.skipC ?_
        refine At.thenN ?_
        exact At.meets () trivial (Sub.cons rfl (Sub.cons rfl (Sub.cons rfl (Sub.cons rfl (Sub.cons rfl (Sub.cons rfl (Sub.cons (congrArg (fun z : BitVec 64 => some (b64 z)) (show _ = valC wd c from by unfold valC; rw [if_pos (by omega)])) Sub.nil))))))) (List.Perm.refl _)
      ·skip
       intro u hs
       refine tR ?_
       refine tM rfl rfl ?_
       refine tM rfl rfl ?_
       refine tM rfl rfl ?_
       refine At.callN (fun w hw => only_n K c w hK16) Try.call30 rfl rfl (fun v18 => ?_)
       refine At.callRK 6 rfl (fun w hw hr => crash_k _ _ _ _ (onlyL K c) w (row_rd (hw.row (i := 0) rfl) (by decide)) (hw.offRow (i := 0) (j := 6) rfl rfl (by decide)) hr) Try.call21 rfl rfl (fun v19 => ?_)
       refine tA rfl rfl ?_
       refine tE ?_
       refine tR ?_
       refine tM rfl rfl ?_
       refine tM rfl rfl ?_
       refine tM rfl rfl ?_
       refine At.val (Val.indexDb (i := 6) (K * 3) (by omega) Try.underlying43 Try.sizeOf48 rfl rfl rfl (by omega) (by omega)) rfl rfl rfl ?_
       refine At.val (Val.field (K * 3 + 0) rfl fo_48_0 rfl) rfl rfl rfl ?_
       refine At.val (Val.loadDb (i := 6) 0 Try.isAgg3 rfl rfl rfl hx rfl) rfl rfl rfl ?_
       refine At.callP (fun w hw => at8_w _ _ _ w (row_rd (hw.row (i := 0) rfl) (by decide)) (by rw [wbytes_length, picked_length]; omega) (by rw [wbytes_length, picked_length]; omega)) Try.call24 rfl rfl ?_
       rw [wbytes_word hwc]
       ·skip
        refine tM rfl rfl ?_
        refine At.val (Val.extract rfl rfl) rfl rfl rfl ?_
        refine At.val (Val.extract rfl rfl) rfl rfl rfl ?_
        refine tA rfl rfl ?_
        refine tA rfl rfl ?_
        refine tE ?_
        refine At.seq ?_
        refine tR ?_
        refine tM rfl rfl ?_
        refine At.val (Val.not rfl) rfl rfl rfl ?_
        refine tM rfl rfl ?_
        refine At.yes rfl rfl ?_
        refine tM rfl rfl ?_
        refine At.yes rfl rfl ?_
        refine tM rfl rfl ?_
        refine At.yes rfl rfl ?_
        refine At.val (Val.bin rfl rfl rfl) rfl rfl rfl ?_
        rw [bne_self_eq_false]
        refine At.val (Val.pickF rfl rfl) rfl rfl rfl ?_
        refine tM rfl rfl ?_
        refine At.yes rfl rfl ?_
        refine tM rfl rfl ?_
        refine At.yes rfl rfl ?_
        refine At.val (Val.lenRow (i := 0) Try.underlying33 rfl rfl) rfl rfl rfl ?_
        refine At.yes rfl rfl ?_
        refine tM rfl rfl ?_
        refine At.yes rfl rfl ?_
        refine At.val (Val.bin rfl rfl rfl) rfl rfl rfl ?_
        refine At.val (Val.pickF rfl rfl) rfl rfl rfl ?_
        refine tE ?_
        refine At.cond rfl (fun h20 => ?_) (fun h20 => ?_)
        ·skip
         try simp only [hasB, isSizeB, Bool.not_eq_true', Bool.not_eq_false', bne_iff_ne, ne_eq, bne_eq_false_iff_eq, beq_iff_eq, beq_eq_false_iff_ne, decide_eq_true_eq, decide_eq_false_iff_not, gt_iff_lt, ge_iff_le] at h20
         rw [hXcl] at h20; omega
        ·skip
         try simp only [hasB, isSizeB, Bool.not_eq_true', Bool.not_eq_false', bne_iff_ne, ne_eq, bne_eq_false_iff_eq, beq_iff_eq, beq_eq_false_iff_ne, decide_eq_true_eq, decide_eq_false_iff_not, gt_iff_lt, ge_iff_le] at h20
         refine At.skipC ?_
         refine At.thenN ?_
         refine tR ?_
         refine tA rfl rfl ?_
         refine tE ?_
         refine At.block ?_
         skip
         refine At.loop (σ := Nat) (fun i => i ≤ 8 * N) (fun i => [(7, .int .i64 (8 * (N : Int))), (8, .pointer (some ⟨p1, 0, none⟩)), (10, v4), (11, v7), (15, .int .i64 (K : Int)), (16, .int .i64 (c : Int)), (18, v19), (21, .int .i64 (i : Int))]) (fun i => [rowR v19 5 1 ((wbytes (picked σ1.ws (pkC σ1.ws (onlyL K c)))).length) ((wbytes (picked σ1.ws (pkC σ1.ws (onlyL K c)))).map bv), rowR v18 3 1 ((onlyL K c).length) ((onlyL K c).map (Value.int .i64)), rowR v11 5 1 ((wbytes (viewWs (σ1).ws)).length) ((wbytes (viewWs (σ1).ws)).map bv), rowR v10 5 1 ((wbytes (picked σ1.ws (pkC σ1.ws (lensL (dts σ1.ws))))).length) ((wbytes (picked σ1.ws (pkC σ1.ws (lensL (dts σ1.ws))))).map bv), rowR v9 3 1 ((lensL (dts σ1.ws)).length) ((lensL (dts σ1.ws)).map (Value.int .i64)), rowR v7 5 1 ((wbytes (picked σ1.ws (pkC σ1.ws []))).length) ((wbytes (picked σ1.ws (pkC σ1.ws []))).map bv), dbtR v4 Q5, Dev p1 y3 (σ1)]) (fun i => 8 * N - i) 0 (Nat.zero_le _) (Sub.cons rfl (Sub.cons rfl (Sub.cons rfl (Sub.cons rfl (Sub.cons rfl (Sub.cons rfl (Sub.cons rfl (Sub.cons rfl Sub.nil)))))))) (List.Perm.refl _) ?_
         intro i hi
         refine At.seq ?_
         refine tR ?_
         refine tM rfl rfl ?_
         refine tM rfl rfl ?_
         refine At.val (Val.bin rfl rfl rfl) rfl rfl rfl ?_
         refine tE ?_
         refine At.cond rfl (fun h21 => ?_) (fun h21 => ?_)
         ·skip
          try simp only [hasB, isSizeB, Bool.not_eq_true', Bool.not_eq_false', bne_iff_ne, ne_eq, bne_eq_false_iff_eq, beq_iff_eq, beq_eq_false_iff_ne, decide_eq_true_eq, decide_eq_false_iff_not, gt_iff_lt, ge_iff_le] at h21
          obtain ⟨qa, hqa⟩ : ∃ q, (wbytes (picked σ1.ws (pkC σ1.ws (onlyL K c))))[i]? = some q := ⟨_, List.getElem?_eq_getElem (by rw [hXcl]; omega)⟩
          obtain ⟨qb, hqb⟩ : ∃ q, (wbytes (picked σ1.ws (pkC σ1.ws [])))[i]? = some q := ⟨_, List.getElem?_eq_getElem (by rw [hXl]; omega)⟩
          have hqq : (i < 8 * k ∨ 8 * k + 8 ≤ i) → qa = qb := fun h => by rw [hpo, bytes_set (by rw [picked_length]; exact hkl) h] at hqa; exact Option.some.inj (hqa.symm.trans hqb)
          refine At.skipC ?_
          refine At.thenN ?_
          refine At.seq ?_
          refine At.block ?_
          refine At.seq ?_
          refine At.quiet rfl (by decide +kernel) ?_
          refine qM rfl rfl ?_
          refine qM rfl rfl ?_
          refine QAt.idxRowB (i := 0) rfl Try.underlying33 Try.sizeOf5 rfl rfl (by omega) (by omega) rfl rfl (fun q22 hq23 hl24 => ?_)
          obtain rfl : qa = q22 := Option.some.inj (hqa.symm.trans (by have := hq23; rwa [Int.toNat_natCast] at this))
          ·skip
           refine QAt.val (Val.loadRowB (i := 0) Try.isAgg5 rfl rfl hqa) rfl rfl rfl ?_
           refine qM rfl rfl ?_
           refine qM rfl rfl ?_
           refine QAt.idxRowB (i := 5) rfl Try.underlying33 Try.sizeOf5 rfl rfl (by omega) (by omega) rfl rfl (fun q25 hq26 hl27 => ?_)
           obtain rfl : qb = q25 := Option.some.inj (hqb.symm.trans (by have := hq26; rwa [Int.toNat_natCast] at this))
           ·skip
            refine QAt.val (Val.loadRowB (i := 5) Try.isAgg5 rfl rfl hqb) rfl rfl rfl ?_
            refine QAt.weaken [(7, _), (8, _), (10, _), (11, _), (15, _), (16, _), (18, _), (21, _), (172, _), (173, _), (174, _), (180, _), (184, _)] (Sub.cons rfl (Sub.cons rfl (Sub.cons rfl (Sub.cons rfl (Sub.cons rfl (Sub.cons rfl (Sub.cons rfl (Sub.cons rfl (Sub.cons rfl (Sub.cons rfl (Sub.cons rfl (Sub.cons rfl (Sub.cons rfl Sub.nil))))))))))))) ?_
            refine QAt.boolMeet 20 204 (false) ?_ ?_
            ·skip
             simp only [List.take_succ_cons, List.take_zero]
             refine QAt.val (Val.bin rfl rfl rfl) rfl rfl rfl ?_
             refine qM rfl rfl ?_
             refine QAt.split (t := 186) rfl (fun h28 => ?_) (fun h28 => ?_)
             ·skip
              try simp only [hasB, isSizeB, Bool.not_eq_true', Bool.not_eq_false', bne_iff_ne, ne_eq, bne_eq_false_iff_eq, beq_iff_eq, beq_eq_false_iff_ne, decide_eq_true_eq, decide_eq_false_iff_not, gt_iff_lt, ge_iff_le] at h28
              refine QAt.yes rfl rfl ?_
              refine qM rfl rfl ?_
              refine QAt.yes rfl rfl ?_
              refine qM rfl rfl ?_
              refine QAt.yes rfl rfl ?_
              refine qM rfl rfl ?_
              refine QAt.yes rfl rfl ?_
              refine QAt.val (Val.indexDb (i := 6) (K * 3) (by omega) Try.underlying43 Try.sizeOf48 rfl rfl rfl (by omega) (by omega)) rfl rfl rfl ?_
              refine QAt.yes rfl rfl ?_
              refine QAt.val (Val.field (K * 3 + 0) rfl fo_48_0 rfl) rfl rfl rfl ?_
              refine QAt.yes rfl rfl ?_
              refine QAt.val (Val.loadDb (i := 6) 0 Try.isAgg3 rfl rfl rfl hx rfl) rfl rfl rfl ?_
              refine QAt.yes rfl rfl ?_
              refine QAt.val (Val.bin rfl rfl rfl) rfl rfl rfl ?_
              refine QAt.yes rfl rfl ?_
              refine qM rfl rfl ?_
              refine QAt.split (t := 194) rfl (fun h29 => ?_) (fun h29 => ?_)
              ·skip
               try simp only [hasB, isSizeB, Bool.not_eq_true', Bool.not_eq_false', bne_iff_ne, ne_eq, bne_eq_false_iff_eq, beq_iff_eq, beq_eq_false_iff_ne, decide_eq_true_eq, decide_eq_false_iff_not, gt_iff_lt, ge_iff_le] at h29
               refine QAt.no rfl rfl rfl rfl ?_
               refine QAt.no rfl rfl rfl rfl ?_
               refine QAt.no rfl rfl rfl rfl ?_
               refine QAt.no rfl rfl rfl rfl ?_
               refine QAt.no rfl rfl rfl rfl ?_
               refine QAt.no rfl rfl rfl rfl ?_
               refine QAt.no rfl rfl rfl rfl ?_
               refine QAt.no rfl rfl rfl rfl ?_
               refine QAt.yes rfl rfl ?_
               refine QAt.val (Val.pickT rfl rfl) rfl rfl rfl ?_
               refine QAt.val (Val.pickT rfl rfl) rfl rfl rfl ?_
               exact QAt.boolEnd rfl (by first | rfl | exact absurd (congrArg (fun z : UInt8 => (z.toNat : Int)) (hqq (by omega))) (by assumption) | exact decide_eq_false (fun hge => absurd (congrArg (fun z : UInt8 => (z.toNat : Int)) (hqq (by omega))) (by assumption))) (by repeat (first | exact Sub.nil | refine Sub.cons rfl ?_))
              ·skip
               try simp only [hasB, isSizeB, Bool.not_eq_true', Bool.not_eq_false', bne_iff_ne, ne_eq, bne_eq_false_iff_eq, beq_iff_eq, beq_eq_false_iff_ne, decide_eq_true_eq, decide_eq_false_iff_not, gt_iff_lt, ge_iff_le] at h29
               refine QAt.yes rfl rfl ?_
               refine qM rfl rfl ?_
               refine QAt.yes rfl rfl ?_
               refine qM rfl rfl ?_
               refine QAt.yes rfl rfl ?_
               refine qM rfl rfl ?_
               refine QAt.yes rfl rfl ?_
               refine QAt.val (Val.indexDb (i := 6) (K * 3) (by omega) Try.underlying43 Try.sizeOf48 rfl rfl rfl (by omega) (by omega)) rfl rfl rfl ?_
               refine QAt.yes rfl rfl ?_
               refine QAt.val (Val.field (K * 3 + 0) rfl fo_48_0 rfl) rfl rfl rfl ?_
               refine QAt.yes rfl rfl ?_
               refine QAt.val (Val.loadDb (i := 6) 0 Try.isAgg3 rfl rfl rfl hx rfl) rfl rfl rfl ?_
               refine QAt.yes rfl rfl ?_
               refine QAt.val (show Val _ _ _ _ _ (.int .i64 (8 * (k : Int) + 8)) from Val.addI rfl rfl (by omega) (by omega)) rfl rfl rfl ?_
               refine QAt.yes rfl rfl ?_
               refine QAt.val (Val.bin rfl rfl rfl) rfl rfl rfl ?_
               refine QAt.yes rfl rfl ?_
               refine QAt.val (Val.pickF rfl rfl) rfl rfl rfl ?_
               refine QAt.val (Val.pickT rfl rfl) rfl rfl rfl ?_
               exact QAt.boolEnd rfl (by first | rfl | exact absurd (congrArg (fun z : UInt8 => (z.toNat : Int)) (hqq (by omega))) (by assumption) | exact decide_eq_false (fun hge => absurd (congrArg (fun z : UInt8 => (z.toNat : Int)) (hqq (by omega))) (by assumption))) (by repeat (first | exact Sub.nil | refine Sub.cons rfl ?_))
             ·skip
              try simp only [hasB, isSizeB, Bool.not_eq_true', Bool.not_eq_false', bne_iff_ne, ne_eq, bne_eq_false_iff_eq, beq_iff_eq, beq_eq_false_iff_ne, decide_eq_true_eq, decide_eq_false_iff_not, gt_iff_lt, ge_iff_le] at h28
              refine QAt.no rfl rfl rfl rfl ?_
              refine QAt.no rfl rfl rfl rfl ?_
              refine QAt.no rfl rfl rfl rfl ?_
              refine QAt.no rfl rfl rfl rfl ?_
              refine QAt.no rfl rfl rfl rfl ?_
              refine QAt.no rfl rfl rfl rfl ?_
              refine QAt.no rfl rfl rfl rfl ?_
              refine QAt.no rfl rfl rfl rfl ?_
              refine QAt.noU rfl rfl rfl ?_
              refine QAt.noU rfl rfl rfl ?_
              refine QAt.noU rfl rfl rfl ?_
              refine QAt.noU rfl rfl rfl ?_
              refine QAt.noU rfl rfl rfl ?_
              refine QAt.noU rfl rfl rfl ?_
              refine QAt.noU rfl rfl rfl ?_
              refine QAt.noU rfl rfl rfl ?_
              refine QAt.no rfl rfl rfl rfl ?_
              refine QAt.val (Val.pickF rfl rfl) rfl rfl rfl ?_
              exact QAt.boolEnd rfl (by first | rfl | exact absurd (congrArg (fun z : UInt8 => (z.toNat : Int)) (hqq (by omega))) (by assumption) | exact decide_eq_false (fun hge => absurd (congrArg (fun z : UInt8 => (z.toNat : Int)) (hqq (by omega))) (by assumption))) (by repeat (first | exact Sub.nil | refine Sub.cons rfl ?_))
            ·skip
             simp only [List.drop_succ_cons, List.drop_zero]
             refine QAt.fin ?_
             refine At.thenN ?_
             refine At.cond rfl (fun h30 => ?_) (fun h30 => ?_)
             ·skip
              try simp only [hasB, isSizeB, Bool.not_eq_true', Bool.not_eq_false', bne_iff_ne, ne_eq, bne_eq_false_iff_eq, beq_iff_eq, beq_eq_false_iff_ne, decide_eq_true_eq, decide_eq_false_iff_not, gt_iff_lt, ge_iff_le] at h30
              cases h30
             ·skip
              try simp only [hasB, isSizeB, Bool.not_eq_true', Bool.not_eq_false', bne_iff_ne, ne_eq, bne_eq_false_iff_eq, beq_iff_eq, beq_eq_false_iff_ne, decide_eq_true_eq, decide_eq_false_iff_not, gt_iff_lt, ge_iff_le] at h30
              refine At.skipC ?_
              refine At.blkN ?_
              refine At.thenN ?_
              refine At.region ?_
              refine tM rfl rfl ?_
              first | refine At.val (Val.addI rfl rfl (by omega) (by omega)) rfl rfl rfl ?_ | refine At.val (Val.bin rfl rfl rfl) rfl rfl rfl ?_
              refine tA rfl rfl ?_
              refine tE ?_
              exact At.again (i + 1) (show i + 1 ≤ _ by omega) (by omega) (Sub.cons rfl (Sub.cons rfl (Sub.cons rfl (Sub.cons rfl (Sub.cons rfl (Sub.cons rfl (Sub.cons rfl (Sub.cons (congrArg (fun z => some (Value.int IntKind.i64 z)) (by omega)) Sub.nil)))))))) (List.Perm.refl _)
         ·skip
          try simp only [hasB, isSizeB, Bool.not_eq_true', Bool.not_eq_false', bne_iff_ne, ne_eq, bne_eq_false_iff_eq, beq_iff_eq, beq_eq_false_iff_ne, decide_eq_true_eq, decide_eq_false_iff_not, gt_iff_lt, ge_iff_le] at h21
          refine At.drop 1 ?_
          simp only [ec0, ecS]
          refine At.drop 0 ?_
          simp only [ec0, ecS]
          refine At.exitC ?_
          refine At.thenX ?_
          refine At.thenX ?_
          refine At.blkX ?_
          refine At.blkN ?_
          refine At.thenN ?_
          refine At.region ?_
          refine tM rfl rfl ?_
          first | refine At.val (Val.addI rfl rfl (by omega) (by omega)) rfl rfl rfl ?_ | refine At.val (Val.bin rfl rfl rfl) rfl rfl rfl ?_
          refine tA rfl rfl ?_
          refine tE ?_
          exact At.again (c + 1) (show c + 1 ≤ _ by omega) (by omega) (Sub.cons rfl (Sub.cons rfl (Sub.cons rfl (Sub.cons rfl (Sub.cons rfl (Sub.cons (congrArg (fun z => some (Value.int IntKind.i64 z)) (by omega)) Sub.nil)))))) (List.Perm.refl _)
     ·skip
      try simp only [hasB, isSizeB, Bool.not_eq_true', Bool.not_eq_false', bne_iff_ne, ne_eq, bne_eq_false_iff_eq, beq_iff_eq, beq_eq_false_iff_ne, decide_eq_true_eq, decide_eq_false_iff_not, gt_iff_lt, ge_iff_le] at h16
      refine At.exitC ?_
      refine At.thenX ?_
      refine At.thenX ?_
      refine At.blkX ?_
      refine At.thenN ?_
      refine tR ?_
      refine tA rfl rfl ?_
      refine tE ?_
      refine At.retC ?_
      refine At.ret1 (.inl rfl) rfl rfl rfl (fun w hw => ?_)
      exact ⟨rfl, hw.mod⟩

end Go.Proofs.Ytkpbpeajkfgfiaa
