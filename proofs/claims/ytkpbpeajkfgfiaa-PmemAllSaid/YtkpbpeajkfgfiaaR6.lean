/- The document's device: doubts, bytes that are read. -/
import Derived.Test.YtkpbpeajkfgfiaaR5
import Derived.Test.YtkpbpeajkfgfiaaP10
import Derived.Test.YtkpbpeajkfgfiaaP13
set_option linter.unusedVariables false
set_option linter.unusedSimpArgs false
namespace Go.Proofs.Ytkpbpeajkfgfiaa
open Go Go.Wk

theorem dkc_line {ws : List Wd} {k : Nat} : ∀ j, (∀ i, i < j → ∃ w, ws[k + i]? = some w ∧ w.news = []) → dkc ws (k + j) = dkc ws k
  | 0, _ => rfl
  | j + 1, h => by
    obtain ⟨w, h1, h2⟩ := h j (Nat.lt_succ_self j)
    rw [← Nat.add_assoc, dkc_no h1 h2, dkc_line j (fun i hi => h i (by omega))]
theorem Sim.noPuts {σ : Ds} {ρ : Rs} (h : Sim σ ρ) {k : Nat} {l : Rl} (hk : ρ.ls[k]? = some l) (hp : l.puts = []) {j : Nat} (hj : j < 8) : ∃ w, σ.ws[8 * k + j]? = some w ∧ w.news = [] := by
  obtain ⟨_, _, _, _, _, h6⟩ := h.line k l hk
  obtain ⟨v0, w, _, g2, A, B, C, hP, _, _, _, _, hn, _⟩ := h6 j hj
  refine ⟨w, g2, ?_⟩
  rw [hp] at hP
  have hP' : A ++ (B ++ C) = [] := hP.symm
  have := List.append_eq_nil_iff.1 hP'
  rw [hn, this.2]; rfl
theorem fst_step {ws : List Wd} {Q : List Dq} {K : Nat} {w : Wd} {v : Value} (h : Q.map Prod.fst = (dts ws).take (dkc ws K)) (hk : ws[K]? = some w) (hn : w.news ≠ []) : (Q ++ [((8 * (K : Int), w.old, w.news), v)]).map Prod.fst = (dts ws).take (dkc ws (K + 1)) := by
  rw [dkc_yes hk hn]; exact fst_snoc h (dkc_at hk hn) hk
theorem dkc_le_dk (ws : List Wd) {K : Nat} (h : K ≤ ws.length) : dkc ws K ≤ (dk ws).length := by
  rw [← dkc_all]
  unfold dkc
  rw [show ws.length = K + (ws.length - K) by omega, List.range_add, List.filter_append, List.length_append]; omega
theorem fst_lenK {ws : List Wd} {Q : List Dq} {K : Nat} (h : Q.map Prod.fst = (dts ws).take (dkc ws K)) : Q.length ≤ K := by
  have := congrArg List.length h
  rw [List.length_map, List.length_take] at this
  have := dkc_le ws K
  omega
theorem take_byte {l : List UInt8} {a c : Nat} {b : UInt8} (h : l[a + c]? = some b) : (l.drop a).take (c + 1) = (l.drop a).take c ++ [b] := by
  rw [List.take_add_one, List.getElem?_drop, h]; rfl

theorem rdoubts_s (p : Nat) (γ : Rg) (ρ : Rs) (σ : Ds) (w : World) (hsim : Sim σ ρ) (hwl : σ.ws.length ≤ 65536) (hd : (RDev p γ ρ).holds w) :
    DbtK Try.prog 97 [.pointer (some ⟨p, 0, none⟩)] (RDev p γ ρ) (dts σ.ws) w := by
 refine enterRc hd Try.func97 rfl Try.ntmps97 rfl ?_
 obtain ⟨hQ, hg⟩ := RDev.facts hd
 have hln := hg.len
 have hps := hg.pos
 have hnw := hg.now
 have hsl := hsim.len
 have h8 := first8_of hQ hg
 have hQl : γ.Q.length = ρ.ls.length := by rw [← hQ, List.length_map]
 simp only [envOf]
 refine tR ?_
 refine tA rfl rfl ?_
 refine tE ?_
 refine tR ?_
 refine tA rfl rfl ?_
 refine At.nil ?_
 refine At.rowNil tDt 3 ?_
 refine At.starNil ?_
 refine At.bring 2 rfl ?_
 simp only [ec0, ecS]
 refine At.thenN ?_
 refine At.seq ?_
 refine tR ?_
 refine tA rfl rfl ?_
 refine tE ?_
 refine At.block ?_
 skip
 refine At.loop (σ := Nat × List Dq × Value) (fun s => s.1 ≤ ρ.ls.length ∧ s.2.1.map Prod.fst = (dts σ.ws).take (dkc σ.ws (8 * s.1))) (fun s => [(0, .pointer (some ⟨p, 0, none⟩)), (3, s.2.2), (4, .int .i64 (s.1 : Int))]) (fun s => [RDev p γ ρ, star (newsR s.2.1), drow s.2.2 s.2.1]) (fun s => ρ.ls.length - s.1) (0, [], .slice none 0 0) ⟨Nat.zero_le _, rfl⟩ (Sub.cons rfl (Sub.cons rfl (Sub.cons rfl Sub.nil))) (List.Perm.refl _) ?_
 intro s hs
 obtain ⟨i, Q, vd⟩ := s
 dsimp only at hs ⊢
 refine At.seq ?_
 refine At.seq ?_
 refine At.openS 0 rfl ?_
 simp only [rdevL, List.cons_append, List.nil_append, ec0, ecS]
 refine At.region ?_
 refine tM rfl rfl ?_
 refine tM rfl rfl ?_
 refine At.val (Val.nilCheck rfl) rfl rfl rfl ?_
 refine At.val (Val.field 0 rfl fo_134_0 rfl) rfl rfl rfl ?_
 refine At.val (Val.load (i := 0) Try.isAgg132 rfl rfl rfl) rfl rfl rfl ?_
 refine At.val (Val.lenRow (i := 1) Try.underlying132 rfl rfl) rfl rfl rfl ?_
 refine At.val (Val.bin rfl rfl rfl) rfl rfl rfl ?_
 refine At.nil ?_
 refine At.shutS (L := rdevL p γ ρ) ?_
 refine At.thenN ?_
 refine At.cond rfl (fun h1 => ?_) (fun h1 => ?_)
 ·skip
  try simp only [hasB, isSizeB, Bool.not_eq_true', Bool.not_eq_false', bne_iff_ne, ne_eq, bne_eq_false_iff_eq, beq_iff_eq, beq_eq_false_iff_ne, decide_eq_true_eq, decide_eq_false_iff_not, gt_iff_lt, ge_iff_le] at h1
  have hi : i < ρ.ls.length := by omega
  obtain ⟨q, hq⟩ : ∃ q, γ.Q[i]? = some q := ⟨_, List.getElem?_eq_getElem (by omega)⟩
  have hlq := line_at hQ hq
  refine At.skipC ?_
  refine At.thenN ?_
  refine At.seq ?_
  refine At.block ?_
  refine tR ?_
  refine tA rfl rfl ?_
  refine tE ?_
  refine At.block ?_
  skip
  refine At.loop (σ := Nat × List Dq × Value) (fun s => s.1 ≤ 8 ∧ s.2.1.map Prod.fst = (dts σ.ws).take (dkc σ.ws (8 * i + s.1))) (fun s => [(0, .pointer (some ⟨p, 0, none⟩)), (3, s.2.2), (4, .int .i64 (i : Int)), (5, .int .i64 (s.1 : Int))]) (fun s => [RDev p γ ρ, star (newsR s.2.1), drow s.2.2 s.2.1]) (fun s => 8 - s.1) (0, Q, vd) ⟨Nat.zero_le _, hs.2⟩ (Sub.cons rfl (Sub.cons rfl (Sub.cons rfl (Sub.cons rfl Sub.nil)))) (List.Perm.refl _) ?_
  intro s hs2
  obtain ⟨j, Q2, vd2⟩ := s
  dsimp only at hs2 ⊢
  have hQl2 := fst_lenK hs2.2
  refine At.seq ?_
  refine At.seq ?_
  refine At.openS 0 rfl ?_
  simp only [rdevL, List.cons_append, List.nil_append, ec0, ecS]
  refine At.region ?_
  refine tM rfl rfl ?_
  refine At.val (Val.bin rfl rfl rfl) rfl rfl rfl ?_
  refine At.weaken [(0, _), (3, _), (4, _), (5, _), (18, _)] (Sub.cons rfl (Sub.cons rfl (Sub.cons rfl (Sub.cons rfl (Sub.cons rfl Sub.nil))))) ?_
  refine At.boolMeet 12 30 (decide (j < 8 ∧ 0 < q.1.puts.length)) ?_ ?_
  ·skip
   simp only [List.take_succ_cons, List.take_zero]
   refine tM rfl rfl ?_
   refine At.split (t := 19) rfl (fun h2 => ?_) (fun h2 => ?_)
   ·skip
    try simp only [hasB, isSizeB, Bool.not_eq_true', Bool.not_eq_false', bne_iff_ne, ne_eq, bne_eq_false_iff_eq, beq_iff_eq, beq_eq_false_iff_ne, decide_eq_true_eq, decide_eq_false_iff_not, gt_iff_lt, ge_iff_le] at h2
    refine At.yes rfl rfl ?_
    refine tM rfl rfl ?_
    refine At.yes rfl rfl ?_
    refine At.val (Val.nilCheck rfl) rfl rfl rfl ?_
    refine At.yes rfl rfl ?_
    refine At.val (Val.field 0 rfl fo_134_0 rfl) rfl rfl rfl ?_
    refine At.yes rfl rfl ?_
    refine At.val (Val.load (i := 0) Try.isAgg132 rfl rfl rfl) rfl rfl rfl ?_
    refine At.yes rfl rfl ?_
    refine tM rfl rfl ?_
    refine At.yes rfl rfl ?_
    refine At.val (Val.indexRow (i := 1) (i * 10) (by omega) Try.underlying132 Try.sizeOf155 rfl rfl rfl (by omega) (by omega)) rfl rfl rfl ?_
    refine At.yes rfl rfl ?_
    refine At.val (Val.field ((i * 10 + 8)) rfl fo_155_1 rfl) rfl rfl rfl ?_
    refine At.yes rfl rfl ?_
    refine At.val (Val.loadRow (i := 1) Try.isAgg153 rfl rfl (lC_puts h8 hq)) rfl rfl rfl ?_
    refine At.yes rfl rfl ?_
    refine At.val (Val.lenO (fam_puts (i := 2) rfl hq) (by decide) Try.underlying153 rfl) rfl rfl rfl ?_
    refine At.yes rfl rfl ?_
    refine At.val (Val.bin rfl rfl rfl) rfl rfl rfl ?_
    refine At.val (Val.pickT rfl rfl) rfl rfl rfl ?_
    refine At.nil ?_
    exact At.boolEnd rfl (by apply Bool.eq_iff_iff.2; (simp only [decide_eq_true_eq, Bool.false_eq_true, false_iff, true_iff, gt_iff_lt, ge_iff_le]) <;> omega) (by repeat (first | exact Sub.nil | refine Sub.cons rfl ?_))
   ·skip
    try simp only [hasB, isSizeB, Bool.not_eq_true', Bool.not_eq_false', bne_iff_ne, ne_eq, bne_eq_false_iff_eq, beq_iff_eq, beq_eq_false_iff_ne, decide_eq_true_eq, decide_eq_false_iff_not, gt_iff_lt, ge_iff_le] at h2
    refine At.no rfl rfl rfl rfl ?_
    refine At.no rfl rfl rfl rfl ?_
    refine At.no rfl rfl rfl rfl ?_
    refine At.no rfl rfl rfl rfl ?_
    refine At.no rfl rfl rfl rfl ?_
    refine At.no rfl rfl rfl rfl ?_
    refine At.no rfl rfl rfl rfl ?_
    refine At.no rfl rfl rfl rfl ?_
    refine At.no rfl rfl rfl rfl ?_
    refine At.no rfl rfl rfl rfl ?_
    refine At.val (Val.pickF rfl rfl) rfl rfl rfl ?_
    refine At.nil ?_
    exact At.boolEnd rfl (by apply Bool.eq_iff_iff.2; (simp only [decide_eq_true_eq, Bool.false_eq_true, false_iff, true_iff, gt_iff_lt, ge_iff_le]) <;> omega) (by repeat (first | exact Sub.nil | refine Sub.cons rfl ?_))
  ·skip
   simp only [List.drop_succ_cons, List.drop_zero]
   refine At.nil ?_
   refine At.shutS (L := rdevL p γ ρ) ?_
   refine At.thenN ?_
   refine At.cond rfl (fun h3 => ?_) (fun h3 => ?_)
   ·skip
    try simp only [hasB, isSizeB, Bool.not_eq_true', Bool.not_eq_false', bne_iff_ne, ne_eq, bne_eq_false_iff_eq, beq_iff_eq, beq_eq_false_iff_ne, decide_eq_true_eq, decide_eq_false_iff_not, gt_iff_lt, ge_iff_le] at h3
    have hj : j < 8 := by omega
    obtain ⟨wd, hk⟩ : ∃ wd, σ.ws[8 * i + j]? = some wd := ⟨_, List.getElem?_eq_getElem (by omega)⟩
    refine At.skipC ?_
    refine At.thenN ?_
    refine At.seq ?_
    refine At.block ?_
    refine tR ?_
    refine tM rfl rfl ?_
    refine tM rfl rfl ?_
    first | refine At.val (Val.mulI rfl rfl (by omega) (by omega)) rfl rfl rfl ?_ | refine At.val (Val.bin rfl rfl rfl) rfl rfl rfl ?_
    refine tM rfl rfl ?_
    first | refine At.val (Val.mulI rfl rfl (by omega) (by omega)) rfl rfl rfl ?_ | refine At.val (Val.bin rfl rfl rfl) rfl rfl rfl ?_
    refine At.val (Val.addI rfl rfl (by omega) (by omega)) rfl rfl rfl ?_
    rw [show 64 * (i : Int) + 8 * (j : Int) = 8 * ((8 * i + j : Nat) : Int) from by omega]
    refine At.callRKT 0 rfl (fun w hw hr => rword_s _ _ _ σ (8 * i + j) wd w hsim hk hr) Try.call111 rfl rfl (fun v4 => ?_)
    refine tM rfl rfl ?_
    refine At.val (Val.extract rfl rfl) rfl rfl rfl ?_
    refine At.val (Val.extract rfl rfl) rfl rfl rfl ?_
    refine tA rfl rfl ?_
    refine tA rfl rfl ?_
    refine tE ?_
    refine tR ?_
    refine tM rfl rfl ?_
    refine At.val (Val.lenRow (i := 0) Try.underlying36 rfl rfl) rfl rfl rfl ?_
    refine At.val (Val.bin rfl rfl rfl) rfl rfl rfl ?_
    refine tE ?_
    refine At.cond rfl (fun h5 => ?_) (fun h5 => ?_)
    ·skip
     try simp only [hasB, isSizeB, Bool.not_eq_true', Bool.not_eq_false', bne_iff_ne, ne_eq, bne_eq_false_iff_eq, beq_iff_eq, beq_eq_false_iff_ne, decide_eq_true_eq, decide_eq_false_iff_not, gt_iff_lt, ge_iff_le] at h5
     have hn : wd.news ≠ [] := List.length_pos_iff.1 (by omega)
     refine At.rowIs (i := 0) rfl (fun A6 c7 hv => ?_)
     subst hv
     refine At.region ?_
     refine tM rfl rfl ?_
     refine tM rfl rfl ?_
     first | refine At.val (Val.mulI rfl rfl (by omega) (by omega)) rfl rfl rfl ?_ | refine At.val (Val.bin rfl rfl rfl) rfl rfl rfl ?_
     refine tM rfl rfl ?_
     first | refine At.val (Val.mulI rfl rfl (by omega) (by omega)) rfl rfl rfl ?_ | refine At.val (Val.bin rfl rfl rfl) rfl rfl rfl ?_
     refine At.val (Val.addI rfl rfl (by omega) (by omega)) rfl rfl rfl ?_
     rw [show 64 * (i : Int) + 8 * (j : Int) = 8 * ((8 * i + j : Nat) : Int) from by omega]
     refine tM rfl rfl ?_
     refine tM rfl rfl ?_
     refine At.val (Val.build (fun a ha => by simp only [List.map_toArray, List.map_cons, List.map_nil, ha.eval (x := (.tmp 51)) rfl, ha.eval (x := (.tmp 52)) rfl, ha.eval (x := (.tmp 53)) rfl] <;> rfl) (bld_48_0_1_2 _ _ _ _ _ )) rfl rfl rfl ?_
     refine At.buildSl (fun a ha => by simp only [List.map_toArray, List.map_cons, List.map_nil, ha.eval (x := (.tmp 54)) rfl]; try rfl) (bs_43_1 _ _ _ _ _ ) rfl (fun b8 => ?_)
     refine At.appendD1 (i := 4) (j := 0) (by_ := 40) (c := ((8 * ((8 * i + j : Nat) : Int), wd.old, wd.news), (.slice A6 (wd.news.length) c7))) Try.underlying43 info_48 rfl rfl rfl rfl rfl rfl rfl rfl rfl rfl (by omega) (by omega) rfl (fun v9 => ?_)
     simp only [sc0, scS]
     refine At.drop 0 ?_
     simp only [ec0, ecS]
     refine At.bring 2 rfl ?_
     simp only [ec0, ecS]
     refine At.bring 1 rfl ?_
     simp only [ec0, ecS]
     refine At.starPush ?_
     refine At.bring 1 rfl ?_
     simp only [ec0, ecS]
     refine tA rfl rfl ?_
     refine At.nil ?_
     refine At.blkN ?_
     refine At.thenN ?_
     refine At.region ?_
     refine tM rfl rfl ?_
     first | refine At.val (Val.addI rfl rfl (by omega) (by omega)) rfl rfl rfl ?_ | refine At.val (Val.bin rfl rfl rfl) rfl rfl rfl ?_
     refine tA rfl rfl ?_
     refine tE ?_
     exact At.again (j + 1, Q2 ++ [((8 * ((8 * i + j : Nat) : Int), wd.old, wd.news), (.slice A6 (wd.news.length) c7))], v9) ⟨(show j + 1 ≤ 8 by omega), fst_step hs2.2 hk hn⟩ (by dsimp only; omega) (Sub.cons rfl (Sub.cons rfl (Sub.cons rfl (Sub.cons (congrArg (fun z => some (Value.int IntKind.i64 z)) (by omega)) Sub.nil)))) (by dsimp only; rw [newsR_snoc]; exact List.Perm.refl _)
    ·skip
     try simp only [hasB, isSizeB, Bool.not_eq_true', Bool.not_eq_false', bne_iff_ne, ne_eq, bne_eq_false_iff_eq, beq_iff_eq, beq_eq_false_iff_ne, decide_eq_true_eq, decide_eq_false_iff_not, gt_iff_lt, ge_iff_le] at h5
     have hn : wd.news = [] := List.eq_nil_of_length_eq_zero (by omega)
     refine At.drop 0 ?_
     simp only [ec0, ecS]
     refine At.skipC ?_
     refine At.blkN ?_
     refine At.thenN ?_
     refine At.region ?_
     refine tM rfl rfl ?_
     first | refine At.val (Val.addI rfl rfl (by omega) (by omega)) rfl rfl rfl ?_ | refine At.val (Val.bin rfl rfl rfl) rfl rfl rfl ?_
     refine tA rfl rfl ?_
     refine tE ?_
     exact At.again (j + 1, Q2, vd2) ⟨(show j + 1 ≤ 8 by omega), (by show _ = (dts σ.ws).take (dkc σ.ws (8 * i + j + 1)); rw [dkc_no hk hn]; exact hs2.2)⟩ (by dsimp only; omega) (Sub.cons rfl (Sub.cons rfl (Sub.cons rfl (Sub.cons (congrArg (fun z => some (Value.int IntKind.i64 z)) (by omega)) Sub.nil)))) (List.Perm.refl _)
   ·skip
    try simp only [hasB, isSizeB, Bool.not_eq_true', Bool.not_eq_false', bne_iff_ne, ne_eq, bne_eq_false_iff_eq, beq_iff_eq, beq_eq_false_iff_ne, decide_eq_true_eq, decide_eq_false_iff_not, gt_iff_lt, ge_iff_le] at h3
    have hdone : dkc σ.ws (8 * i + j) = dkc σ.ws (8 * i + 8) := by by_cases h8' : j = 8; rw [h8']; exact ((dkc_line (k := 8 * i) 8 (fun m hm => hsim.noPuts hlq (List.eq_nil_of_length_eq_zero (by omega)) hm)).trans (dkc_line (k := 8 * i) j (fun m hm => hsim.noPuts hlq (List.eq_nil_of_length_eq_zero (by omega)) (by omega))).symm).symm
    refine At.exitC ?_
    refine At.thenX ?_
    refine At.thenX ?_
    refine At.blkX ?_
    refine At.blkN ?_
    refine At.thenN ?_
    refine At.region ?_
    refine tM rfl rfl ?_
    first | refine At.val (Val.addI rfl rfl (by omega) (by omega)) rfl rfl rfl ?_ | refine At.val (Val.bin rfl rfl rfl) rfl rfl rfl ?_
    refine tA rfl rfl ?_
    refine tE ?_
    exact At.again (i + 1, Q2, vd2) ⟨(show i + 1 ≤ _ by omega), (by rw [show 8 * (i + 1) = 8 * i + 8 by omega, ← hdone]; exact hs2.2)⟩ (by dsimp only; omega) (Sub.cons rfl (Sub.cons rfl (Sub.cons (congrArg (fun z => some (Value.int IntKind.i64 z)) (by omega)) Sub.nil))) (List.Perm.refl _)
 ·skip
  try simp only [hasB, isSizeB, Bool.not_eq_true', Bool.not_eq_false', bne_iff_ne, ne_eq, bne_eq_false_iff_eq, beq_iff_eq, beq_eq_false_iff_ne, decide_eq_true_eq, decide_eq_false_iff_not, gt_iff_lt, ge_iff_le] at h1
  obtain rfl : i = ρ.ls.length := by omega
  refine At.exitC ?_
  refine At.thenX ?_
  refine At.thenX ?_
  refine At.blkX ?_
  refine At.thenN ?_
  refine tR ?_
  refine tM rfl rfl ?_
  refine tA rfl rfl ?_
  refine tE ?_
  refine At.retC ?_
  refine At.ret1 (.inl rfl) rfl rfl rfl (fun w hw => ?_)
  rw [← hsl, dkc_all, List.take_of_length_le (by rw [dts_length]; exact Nat.le_refl _)] at hs
  exact ⟨_, _, rfl, hs.2, (hw.perm (List.perm_middle (l₁ := [_, _]) (l₂ := [])).symm).toDbt⟩

theorem rread_s (p : Nat) (γ : Rg) (ρ : Rs) (σ : Ds) (a n : Nat) (w : World) (hsim : Sim σ ρ) (hwl : σ.ws.length ≤ 65536) (han : a + n ≤ 8 * σ.ws.length) (hd : (RDev p γ ρ).holds w) :
    RowKT Try.prog 87 [.pointer (some ⟨p, 0, none⟩), .int .i64 (a : Int), .int .i64 (n : Int)] (RDev p γ ρ) (fun v' => .tuple #[v', .int .i64 0]) 5 1 (((wbytes (viewWs σ.ws)).drop a).take n).length ((((wbytes (viewWs σ.ws)).drop a).take n).map bv) w := by
 refine enterRc hd Try.func87 rfl Try.ntmps87 rfl ?_
 obtain ⟨hQ, hg⟩ := RDev.facts hd
 have hln := hg.len
 have hps := hg.pos
 have hnw := hg.now
 have hsl := hsim.len
 have hbl : (wbytes (viewWs σ.ws)).length = 8 * σ.ws.length := by rw [wbytes_length, viewWs, List.length_map]
 simp only [envOf]
 refine tR ?_
 refine tA rfl rfl ?_
 refine tA rfl rfl ?_
 refine tE ?_
 refine At.seq ?_
 refine tR ?_
 refine tM rfl rfl ?_
 refine tM rfl rfl ?_
 refine tM rfl rfl ?_
 refine At.callK 0 rfl (fun w hw hr => inside_k _ _ _ _ _ w hr) Try.call116 rfl rfl ?_
 refine At.val (Val.not rfl) rfl rfl rfl ?_
 refine tE ?_
 refine At.cond rfl (fun h1 => ?_) (fun h1 => ?_)
 ·skip
  try simp only [hasB, isSizeB, Bool.not_eq_true', Bool.not_eq_false', bne_iff_ne, ne_eq, bne_eq_false_iff_eq, beq_iff_eq, beq_eq_false_iff_ne, decide_eq_true_eq, decide_eq_false_iff_not, gt_iff_lt, ge_iff_le] at h1
  have hin := hsim.has (a : Int) (n : Int); simp only [hasR, hasB, decide_eq_true_eq, decide_eq_false_iff_not] at h1; omega
 ·skip
  try simp only [hasB, isSizeB, Bool.not_eq_true', Bool.not_eq_false', bne_iff_ne, ne_eq, bne_eq_false_iff_eq, beq_iff_eq, beq_eq_false_iff_ne, decide_eq_true_eq, decide_eq_false_iff_not, gt_iff_lt, ge_iff_le] at h1
  refine At.skipC ?_
  refine At.thenN ?_
  refine tR ?_
  refine tA rfl rfl ?_
  refine At.nil ?_
  refine At.rowNilB 5 ?_
  refine At.thenN ?_
  refine At.seq ?_
  refine tR ?_
  refine tM rfl rfl ?_
  refine tA rfl rfl ?_
  refine tE ?_
  refine At.block ?_
  skip
  refine At.loop (σ := Nat × Value) (fun s => s.1 ≤ n) (fun s => [(0, .pointer (some ⟨p, 0, none⟩)), (1, .int .i64 (a : Int)), (2, .int .i64 (n : Int)), (8, s.2), (9, .int .i64 ((a + s.1 : Nat) : Int))]) (fun s => [brow 5 s.2 (((wbytes (viewWs σ.ws)).drop a).take s.1), RDev p γ ρ]) (fun s => n - s.1) (0, .slice none 0 0) (Nat.zero_le _) (Sub.cons rfl (Sub.cons rfl (Sub.cons rfl (Sub.cons rfl (Sub.cons rfl Sub.nil))))) (List.Perm.refl _) ?_
  intro s hs
  obtain ⟨c, vr⟩ := s
  dsimp only at hs ⊢
  refine At.seq ?_
  refine tR ?_
  refine tM rfl rfl ?_
  refine tM rfl rfl ?_
  refine tM rfl rfl ?_
  first | refine At.val (Val.addI rfl rfl (by omega) (by omega)) rfl rfl rfl ?_ | refine At.val (Val.bin rfl rfl rfl) rfl rfl rfl ?_
  refine At.val (Val.bin rfl rfl rfl) rfl rfl rfl ?_
  refine tE ?_
  refine At.cond rfl (fun h2 => ?_) (fun h2 => ?_)
  ·skip
   try simp only [hasB, isSizeB, Bool.not_eq_true', Bool.not_eq_false', bne_iff_ne, ne_eq, bne_eq_false_iff_eq, beq_iff_eq, beq_eq_false_iff_ne, decide_eq_true_eq, decide_eq_false_iff_not, gt_iff_lt, ge_iff_le] at h2
   have hc : c < n := by omega
   obtain ⟨wd, hk⟩ : ∃ wd, σ.ws[(a + c) / 8]? = some wd := ⟨_, List.getElem?_eq_getElem (by omega)⟩
   have hbyte := wbytes_byte (xs := viewWs σ.ws) (k := (a + c) / 8) (b := (a + c) % 8) (x := nowW wd) (by unfold viewWs; rw [List.getElem?_map, hk]; rfl) (Nat.mod_lt _ (by decide))
   rw [show 8 * ((a + c) / 8) + (a + c) % 8 = a + c by omega] at hbyte
   have hm8 : (a + c) % 8 < 8 := Nat.mod_lt _ (by decide)
   refine At.skipC ?_
   refine At.thenN ?_
   refine At.seq ?_
   refine At.block ?_
   refine tR ?_
   refine tM rfl rfl ?_
   refine tM rfl rfl ?_
   refine tM rfl rfl ?_
   first | refine At.val (Val.remI rfl rfl (by omega) (by decide)) rfl rfl rfl ?_ | refine At.val (Val.rem rfl rfl (by decide)) rfl rfl rfl ?_
   refine At.val (Val.subI rfl rfl (by omega) (by omega)) rfl rfl rfl ?_
   rw [show ((a + c : Nat) : Int) - ((a + c : Nat) : Int) % 8 = 8 * (((a + c) / 8 : Nat) : Int) from by omega]
   refine At.callK 1 rfl (fun w hw hr => rnow_s _ _ _ σ ((a + c) / 8) wd w hsim hk hr) Try.call115 rfl rfl ?_
   refine tA rfl rfl ?_
   refine tE ?_
   refine At.region ?_
   refine tM rfl rfl ?_
   refine tM rfl rfl ?_
   refine tM rfl rfl ?_
   refine At.val (Val.remI rfl rfl (by omega) (by decide)) rfl rfl rfl ?_
   rw [show ((a + c : Nat) : Int) % 8 = (((a + c) % 8 : Nat) : Int) from by omega]
   first | refine At.val (Val.mulI rfl rfl (by omega) (by omega)) rfl rfl rfl ?_ | refine At.val (Val.bin rfl rfl rfl) rfl rfl rfl ?_
   first | refine At.val (Val.toU Try.underlying3 Try.underlying109 rfl (by omega) (by omega)) rfl rfl rfl ?_ | refine At.val (Val.conv Try.underlying3 Try.underlying109 rfl) rfl rfl rfl ?_
   refine At.val (Val.shr rfl rfl (by omega)) rfl rfl rfl ?_
   rw [shr_byte (nowW wd) hm8]
   refine At.val (Val.toB Try.underlying30 Try.underlying5 rfl (Int.natCast_nonneg _)) rfl rfl rfl ?_
   rw [Int.toNat_natCast]
   refine At.buildSl (fun a ha => by simp only [List.map_toArray, List.map_cons, List.map_nil, ha.eval (x := (.tmp 37)) rfl]; try rfl) (bs_33_1 _ ) rfl (fun b3 => ?_)
   refine At.appendB1 (i := 1) (j := 0) (by_ := 1) Try.underlying33 info_5 rfl rfl rfl rfl rfl rfl rfl rfl (by rw [List.length_take, List.length_drop]; omega) (by rw [List.length_take, List.length_drop]; omega) rfl (fun v4 => ?_)
   simp only [sc0, scS]
   refine At.drop 0 ?_
   simp only [ec0, ecS]
   refine tA rfl rfl ?_
   refine At.nil ?_
   refine At.blkN ?_
   refine At.thenN ?_
   refine At.region ?_
   refine tM rfl rfl ?_
   first | refine At.val (Val.addI rfl rfl (by omega) (by omega)) rfl rfl rfl ?_ | refine At.val (Val.bin rfl rfl rfl) rfl rfl rfl ?_
   refine tA rfl rfl ?_
   refine tE ?_
   exact At.again (c + 1, v4) (show c + 1 ≤ n by omega) (by dsimp only; omega) (Sub.cons rfl (Sub.cons rfl (Sub.cons rfl (Sub.cons rfl (Sub.cons (congrArg (fun z => some (Value.int IntKind.i64 z)) (by omega)) Sub.nil))))) (by dsimp only; rw [take_byte hbyte])
  ·skip
   try simp only [hasB, isSizeB, Bool.not_eq_true', Bool.not_eq_false', bne_iff_ne, ne_eq, bne_eq_false_iff_eq, beq_iff_eq, beq_eq_false_iff_ne, decide_eq_true_eq, decide_eq_false_iff_not, gt_iff_lt, ge_iff_le] at h2
   obtain rfl : c = n := by omega
   refine At.exitC ?_
   refine At.thenX ?_
   refine At.thenX ?_
   refine At.blkX ?_
   refine At.thenN ?_
   refine tR ?_
   refine tM rfl rfl ?_
   refine tA rfl rfl ?_
   refine tA rfl rfl ?_
   refine tE ?_
   refine At.retC ?_
   refine At.ret2 (.inl rfl) rfl rfl rfl rfl (fun w hw => ?_)
   exact ⟨_, rfl, hw⟩

theorem rread_no (p : Nat) (γ : Rg) (ρ : Rs) (a n : Int) (w : World) (hno : hasR ρ a n = false) (hd : (RDev p γ ρ).holds w) :
    Upd Try.prog 87 [.pointer (some ⟨p, 0, none⟩), .int .i64 a, .int .i64 n] (RDev p γ ρ) (.tuple #[.slice none 0 0, .int .i64 11]) (RDev p γ ρ) w := by
 refine enterRc hd Try.func87 rfl Try.ntmps87 rfl ?_
 obtain ⟨hQ, hg⟩ := RDev.facts hd
 have hln := hg.len
 have hps := hg.pos
 have hnw := hg.now
 simp only [envOf]
 refine tR ?_
 refine tA rfl rfl ?_
 refine tA rfl rfl ?_
 refine tE ?_
 refine At.seq ?_
 refine tR ?_
 refine tM rfl rfl ?_
 refine tM rfl rfl ?_
 refine tM rfl rfl ?_
 refine At.callK 0 rfl (fun w hw hr => inside_k _ _ _ _ _ w hr) Try.call116 rfl rfl ?_
 refine At.val (Val.not rfl) rfl rfl rfl ?_
 refine tE ?_
 refine At.cond rfl (fun h1 => ?_) (fun h1 => ?_)
 ·skip
  refine tR ?_
  refine tA rfl rfl ?_
  refine tA rfl rfl ?_
  refine tE ?_
  refine At.retC ?_
  refine At.thenR ?_
  refine At.ret2 (.inl rfl) rfl rfl rfl rfl (fun w hw => ?_)
  exact ⟨rfl, hw⟩
 ·skip
  rw [hno] at h1; cases h1

end Go.Proofs.Ytkpbpeajkfgfiaa
