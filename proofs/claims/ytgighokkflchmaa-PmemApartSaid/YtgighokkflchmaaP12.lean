/- Bytes written; words laid. -/
import Derived.Test.YtgighokkflchmaaP11
import Derived.Test.YtgighokkflchmaaQ2
set_option linter.unusedVariables false
set_option linter.unusedSimpArgs false
namespace Go.Proofs.Ytgighokkflchmaa
open Go Go.Wk

def wordsL (l : List UInt8) (m : Nat) : List (BitVec 64) := (List.range m).map fun j => wdA l (8 * j)
theorem wordsL_length (l : List UInt8) (m : Nat) : (wordsL l m).length = m := by simp [wordsL]
theorem wordsL_at {l : List UInt8} {m j : Nat} (h : j < m) : (wordsL l m)[j]? = some (wdA l (8 * j)) := by unfold wordsL; rw [List.getElem?_map, List.getElem?_range h]; rfl
theorem wordsL_wbytes (X : List (BitVec 64)) : wordsL (wbytes X) X.length = X := by
  apply List.ext_getElem?
  intro k
  rcases Nat.lt_or_ge k X.length with h | h
  · rw [wordsL_at h, List.getElem?_eq_getElem h, wbytes_word (List.getElem?_eq_getElem h)]
  · rw [List.getElem?_eq_none (by rw [wordsL_length]; exact h), List.getElem?_eq_none h]
theorem wdA_cut {l : List UInt8} {a n : Nat} (h : a + 8 ≤ l.length) (hn : 8 ≤ n) : wdA ((l.drop a).take n) 0 = wdA l a := by unfold wdA num; rw [List.drop_zero, List.take_take, Nat.min_eq_left hn]

theorem write_d (p : Nat) (γ : Gh) (σ : Ds) (k m : Nat) (v : Value) (lb : List UInt8) (w : World) (hv : RdB w v lb) (ho : Off v (lb.map bv) (feet [Dev p γ σ])) (hm : lb.length = 8 * m) (hkl : k + m ≤ σ.ws.length) (hst : σ.steps + m ≤ 1099511627776) (hd : (Dev p γ σ).holds w) :
    DevU Try.prog 36 [.pointer (some ⟨p, 0, none⟩), .int .i64 (8 * (k : Int)), v] p γ σ (.int .i64 (storesE k σ (wordsL lb m)).1) (storesE k σ (wordsL lb m)).2 w := by
 obtain ⟨A, c, rfl⟩ : ∃ A c, v = .slice A lb.length c := by obtain ⟨A, c, h, _⟩ := hv; exact ⟨A, c, h⟩
 refine enterVc hd Try.func36 rfl Try.ntmps36 rfl ?_
 have hgd := Dev.good hd
 have hln := hgd.len
 simp only [envOf]
 refine tR ?_
 refine tA rfl rfl ?_
 refine tE ?_
 refine At.seq ?_
 refine tR ?_
 refine tM rfl rfl ?_
 refine tM rfl rfl ?_
 refine tM rfl rfl ?_
 refine At.val (Val.lenRd hv Try.underlying36 rfl) rfl rfl rfl ?_
 refine At.callK 0 rfl (fun w hw hr => has_k _ _ _ _ _ w hr) Try.call22 rfl rfl ?_
 refine At.val (Val.not rfl) rfl rfl rfl ?_
 refine tE ?_
 refine At.cond rfl (fun h1 => ?_) (fun h1 => ?_)
 ·skip
  try simp only [hasB, isSizeB, Bool.not_eq_true', Bool.not_eq_false', bne_iff_ne, ne_eq, bne_eq_false_iff_eq, beq_iff_eq, beq_eq_false_iff_ne, decide_eq_true_eq, decide_eq_false_iff_not, gt_iff_lt, ge_iff_le] at h1
  omega
 ·skip
  try simp only [hasB, isSizeB, Bool.not_eq_true', Bool.not_eq_false', bne_iff_ne, ne_eq, bne_eq_false_iff_eq, beq_iff_eq, beq_eq_false_iff_ne, decide_eq_true_eq, decide_eq_false_iff_not, gt_iff_lt, ge_iff_le] at h1
  refine At.skipC ?_
  refine At.thenN ?_
  refine At.seq ?_
  refine tR ?_
  refine tM rfl rfl ?_
  refine At.val (Val.remI rfl rfl (by omega) (by decide)) rfl rfl rfl ?_
  rw [show 8 * (k : Int) % 8 = 0 from by omega]
  refine At.val (Val.bin rfl rfl rfl) rfl rfl rfl ?_
  refine tM rfl rfl ?_
  refine At.yes rfl rfl ?_
  refine tM rfl rfl ?_
  refine At.yes rfl rfl ?_
  refine At.val (Val.lenRd hv Try.underlying36 rfl) rfl rfl rfl ?_
  refine At.yes rfl rfl ?_
  refine At.val (Val.remI rfl rfl (by omega) (by decide)) rfl rfl rfl ?_
  rw [show ((lb.length : Nat) : Int) % 8 = 0 from by omega]
  refine At.yes rfl rfl ?_
  refine At.val (Val.bin rfl rfl rfl) rfl rfl rfl ?_
  refine At.val (Val.pickF rfl rfl) rfl rfl rfl ?_
  refine tE ?_
  refine At.condF rfl ?_
  refine At.skipC ?_
  refine At.thenN ?_
  refine At.seq ?_
  refine tR ?_
  refine tA rfl rfl ?_
  refine tE ?_
  refine At.block ?_
  skip
  refine At.loop (σ := (Nat × Ds) × Gh) (fun s => s.1.1 ≤ m ∧ storesE k σ (wordsL lb m) = storesE (k + s.1.1) s.1.2 ((wordsL lb m).drop s.1.1) ∧ s.1.2.ws.length = σ.ws.length ∧ s.1.2.steps = σ.steps + s.1.1) (fun s => [(0, .pointer (some ⟨p, 0, none⟩)), (1, .int .i64 (8 * (k : Int))), (2, (.slice A lb.length c)), (7, .int .i64 (8 * (s.1.1 : Int)))]) (fun s => [Dev p s.2 s.1.2]) (fun s => m - s.1.1) ((0, σ), γ) ⟨Nat.zero_le _, rfl, rfl, rfl⟩ (Sub.cons rfl (Sub.cons rfl (Sub.cons rfl (Sub.cons rfl Sub.nil)))) (List.Perm.refl _) ?_
  intro s hs
  obtain ⟨⟨j, σ1⟩, γ1⟩ := s
  dsimp only at hs ⊢
  obtain ⟨hj, he, hl1, hs1⟩ := hs
  refine At.seq ?_
  refine tR ?_
  refine tM rfl rfl ?_
  refine tM rfl rfl ?_
  refine At.val (Val.lenRd hv Try.underlying36 rfl) rfl rfl rfl ?_
  refine At.val (Val.bin rfl rfl rfl) rfl rfl rfl ?_
  refine tE ?_
  refine At.cond rfl (fun h2 => ?_) (fun h2 => ?_)
  ·skip
   try simp only [hasB, isSizeB, Bool.not_eq_true', Bool.not_eq_false', bne_iff_ne, ne_eq, bne_eq_false_iff_eq, beq_iff_eq, beq_eq_false_iff_ne, decide_eq_true_eq, decide_eq_false_iff_not, gt_iff_lt, ge_iff_le] at h2
   have hjm : j < m := by omega
   refine At.skipC ?_
   refine At.thenN ?_
   refine At.seq ?_
   refine At.block ?_
   refine tR ?_
   refine tM rfl rfl ?_
   refine tM rfl rfl ?_
   refine tM rfl rfl ?_
   first | refine At.val (Val.addI rfl rfl (by omega) (by omega)) rfl rfl rfl ?_ | refine At.val (Val.bin rfl rfl rfl) rfl rfl rfl ?_
   refine tM rfl rfl ?_
   refine tM rfl rfl ?_
   refine At.val (Val.cutRd (l := 8 * j) (h := lb.length) hv Try.underlying36 Try.sizeOf5 rfl ⟨_, _, rfl, by omega, by omega⟩ rfl (by omega) (by omega)) rfl rfl rfl ?_
   refine At.callP (fun w hw => (by have h0 := wordOf_p _ _ w (RdB.cut (l := 8 * j) (h := lb.length) (hv.keep hw ho) (by omega) (by omega)) (by rw [List.length_take, List.length_drop]; omega); rwa [wdA_cut (by omega) (by omega)] at h0)) Try.call43 rfl rfl ?_
   obtain ⟨x, hx⟩ : ∃ x, x = wdA lb (8 * j) := ⟨_, rfl⟩
   rw [← hx]
   have hx : (wordsL lb m)[j]? = some x := by rw [hx]; exact wordsL_at hjm
   obtain ⟨wd, hwd⟩ : ∃ wd, σ1.ws[k + j]? = some wd := ⟨_, List.getElem?_eq_getElem (by omega)⟩
   cases hdb : deadB σ1
   ·skip
    rw [show 8 * (k : Int) + 8 * (j : Int) = 8 * ((k + j : Nat) : Int) from by omega]
    refine At.callD 0 rfl (fun w hw hr => (storeD_some (x := x) hwd) ▸ store_d _ _ _ (k + j) wd x w hwd (by omega) hdb hr) Try.call19 rfl rfl (fun y3 => ?_)
    simp only [sc0, scS]
    refine tA rfl rfl ?_
    refine tE ?_
    refine tR ?_
    refine tM rfl rfl ?_
    refine At.val (Val.bin rfl rfl rfl) rfl rfl rfl ?_
    refine tE ?_
    refine At.condF rfl ?_
    refine At.skipC ?_
    refine At.blkN ?_
    refine At.thenN ?_
    refine At.region ?_
    refine tM rfl rfl ?_
    first | refine At.val (Val.addI rfl rfl (by omega) (by omega)) rfl rfl rfl ?_ | refine At.val (Val.bin rfl rfl rfl) rfl rfl rfl ?_
    refine tA rfl rfl ?_
    refine tE ?_
    exact At.again ((j + 1, storeD σ1 (k + j) x), y3) ⟨(show j + 1 ≤ m by omega), (by rw [he, drop_cons hx, storesE_live hdb]; rfl), (storeD_rest x (show k + j < σ1.ws.length by omega)).2.2.trans hl1, (show (storeD σ1 (k + j) x).steps = σ.steps + (j + 1) by have := (storeD_rest x (show k + j < σ1.ws.length by omega)).1; omega)⟩ (by dsimp only; omega) (Sub.cons rfl (Sub.cons rfl (Sub.cons rfl (Sub.cons (congrArg (fun z => some (Value.int IntKind.i64 z)) (by first | omega | (dsimp only; omega))) Sub.nil)))) (List.Perm.refl _)
   ·skip
    refine At.callK 0 rfl (fun w hw hr => store_0 _ _ _ _ _ w (place_at' (by omega) (by omega) (by omega)) hdb hr) Try.call19 rfl rfl ?_
    refine tA rfl rfl ?_
    refine tE ?_
    refine tR ?_
    refine tM rfl rfl ?_
    refine At.val (Val.bin rfl rfl rfl) rfl rfl rfl ?_
    refine tE ?_
    refine At.condT rfl ?_
    refine tR ?_
    refine tM rfl rfl ?_
    refine tA rfl rfl ?_
    refine tE ?_
    refine At.retC ?_
    refine At.blkR ?_
    refine At.thenR ?_
    refine At.thenR ?_
    refine At.blkR ?_
    refine At.thenR ?_
    refine At.ret1 (.inl rfl) rfl rfl rfl (fun w hw => ?_)
    rw [he, drop_cons hx, storesE_dead hdb]
    exact ⟨_, rfl, hw⟩
  ·skip
   try simp only [hasB, isSizeB, Bool.not_eq_true', Bool.not_eq_false', bne_iff_ne, ne_eq, bne_eq_false_iff_eq, beq_iff_eq, beq_eq_false_iff_ne, decide_eq_true_eq, decide_eq_false_iff_not, gt_iff_lt, ge_iff_le] at h2
   refine At.exitC ?_
   refine At.thenX ?_
   refine At.thenX ?_
   refine At.blkX ?_
   refine At.thenN ?_
   refine tR ?_
   refine tA rfl rfl ?_
   refine tE ?_
   refine At.retC ?_
   refine At.ret1 (.inl rfl) rfl rfl rfl (fun w hw => ?_)
   rw [he, List.drop_of_length_le (by rw [wordsL_length]; omega)]
   exact ⟨_, rfl, hw⟩

theorem write_no (p : Nat) (γ : Gh) (σ : Ds) (a : Int) (v : Value) (lb : List UInt8) (w : World) (hv : RdB w v lb) (ha : hasB σ a lb.length = false) (hd : (Dev p γ σ).holds w) :
    Upd Try.prog 36 [.pointer (some ⟨p, 0, none⟩), .int .i64 a, v] (Dev p γ σ) (.int .i64 11) (Dev p γ σ) w := by
 refine enterVc hd Try.func36 rfl Try.ntmps36 rfl ?_
 have hgd := Dev.good hd
 simp only [envOf]
 refine tR ?_
 refine tA rfl rfl ?_
 refine tE ?_
 refine At.seq ?_
 refine tR ?_
 refine tM rfl rfl ?_
 refine tM rfl rfl ?_
 refine tM rfl rfl ?_
 refine At.val (Val.lenRd hv Try.underlying36 rfl) rfl rfl rfl ?_
 refine At.callK 0 rfl (fun w hw hr => has_k _ _ _ _ _ w hr) Try.call22 rfl rfl ?_
 refine At.val (Val.not rfl) rfl rfl rfl ?_
 refine tE ?_
 refine At.cond rfl (fun h1 => ?_) (fun h1 => ?_)
 ·skip
  refine tR ?_
  refine tA rfl rfl ?_
  refine tE ?_
  refine At.retC ?_
  refine At.thenR ?_
  refine At.ret1 (.inl rfl) rfl rfl rfl (fun w hw => ?_)
  exact ⟨rfl, hw⟩
 ·skip
  rw [ha] at h1; cases h1

theorem write_al (p : Nat) (γ : Gh) (σ : Ds) (a : Int) (v : Value) (lb : List UInt8) (w : World) (hv : RdB w v lb) (hh : hasB σ a lb.length = true) (ha : ¬ (a % 8 = 0 ∧ lb.length % 8 = 0)) (hd : (Dev p γ σ).holds w) :
    Upd Try.prog 36 [.pointer (some ⟨p, 0, none⟩), .int .i64 a, v] (Dev p γ σ) (.int .i64 12) (Dev p γ σ) w := by
 refine enterVc hd Try.func36 rfl Try.ntmps36 rfl ?_
 have hgd := Dev.good hd
 have hln := hgd.len
 have hh' := hh
 simp only [hasB, decide_eq_true_eq, Bool.and_eq_true] at hh'
 simp only [envOf]
 refine tR ?_
 refine tA rfl rfl ?_
 refine tE ?_
 refine At.seq ?_
 refine tR ?_
 refine tM rfl rfl ?_
 refine tM rfl rfl ?_
 refine tM rfl rfl ?_
 refine At.val (Val.lenRd hv Try.underlying36 rfl) rfl rfl rfl ?_
 refine At.callK 0 rfl (fun w hw hr => has_k _ _ _ _ _ w hr) Try.call22 rfl rfl ?_
 refine At.val (Val.not rfl) rfl rfl rfl ?_
 refine tE ?_
 refine At.cond rfl (fun h1 => ?_) (fun h1 => ?_)
 ·skip
  try simp only [hasB, isSizeB, Bool.not_eq_true', Bool.not_eq_false', bne_iff_ne, ne_eq, bne_eq_false_iff_eq, beq_iff_eq, beq_eq_false_iff_ne, decide_eq_true_eq, decide_eq_false_iff_not, gt_iff_lt, ge_iff_le] at h1
  omega
 ·skip
  try simp only [hasB, isSizeB, Bool.not_eq_true', Bool.not_eq_false', bne_iff_ne, ne_eq, bne_eq_false_iff_eq, beq_iff_eq, beq_eq_false_iff_ne, decide_eq_true_eq, decide_eq_false_iff_not, gt_iff_lt, ge_iff_le] at h1
  refine At.skipC ?_
  refine At.thenN ?_
  refine At.seq ?_
  refine tR ?_
  refine tM rfl rfl ?_
  first | refine At.val (Val.remI rfl rfl (by omega) (by decide)) rfl rfl rfl ?_ | refine At.val (Val.rem rfl rfl (by decide)) rfl rfl rfl ?_
  refine At.val (Val.bin rfl rfl rfl) rfl rfl rfl ?_
  refine At.weaken [(0, _), (1, _), (2, _), (6, _), (9, _), (10, _), (11, _), (12, _), (13, _), (14, _), (17, _)] (Sub.cons rfl (Sub.cons rfl (Sub.cons rfl (Sub.cons rfl (Sub.cons rfl (Sub.cons rfl (Sub.cons rfl (Sub.cons rfl (Sub.cons rfl (Sub.cons rfl (Sub.cons rfl Sub.nil))))))))))) ?_
  refine At.boolMeet 6 23 (true) ?_ ?_
  ·skip
   simp only [List.take_succ_cons, List.take_zero]
   refine tM rfl rfl ?_
   refine At.split (t := 18) rfl (fun h2 => ?_) (fun h2 => ?_)
   ·skip
    try simp only [hasB, isSizeB, Bool.not_eq_true', Bool.not_eq_false', bne_iff_ne, ne_eq, bne_eq_false_iff_eq, beq_iff_eq, beq_eq_false_iff_ne, decide_eq_true_eq, decide_eq_false_iff_not, gt_iff_lt, ge_iff_le] at h2
    refine At.no rfl rfl rfl rfl ?_
    refine At.no rfl rfl rfl rfl ?_
    refine At.no rfl rfl rfl rfl ?_
    refine At.no rfl rfl rfl rfl ?_
    refine At.val (Val.pickT rfl rfl) rfl rfl rfl ?_
    refine At.nil ?_
    exact At.boolEnd rfl (by first | exact (decide_eq_true (by omega)).symm | exact (decide_eq_false (by omega)).symm | (apply Bool.eq_iff_iff.2; simp only [decide_eq_true_eq, beq_iff_eq, bne_iff_ne, ne_eq, Bool.not_eq_true', decide_eq_false_iff_not]; omega) | rfl | (simp_all; done) | (simp_all; omega)) (by repeat (first | exact Sub.nil | refine Sub.cons rfl ?_))
   ·skip
    try simp only [hasB, isSizeB, Bool.not_eq_true', Bool.not_eq_false', bne_iff_ne, ne_eq, bne_eq_false_iff_eq, beq_iff_eq, beq_eq_false_iff_ne, decide_eq_true_eq, decide_eq_false_iff_not, gt_iff_lt, ge_iff_le] at h2
    refine At.yes rfl rfl ?_
    refine tM rfl rfl ?_
    refine At.yes rfl rfl ?_
    refine At.val (Val.lenRd hv Try.underlying36 rfl) rfl rfl rfl ?_
    refine At.yes rfl rfl ?_
    first | refine At.val (Val.remI rfl rfl (by omega) (by decide)) rfl rfl rfl ?_ | refine At.val (Val.rem rfl rfl (by decide)) rfl rfl rfl ?_
    refine At.yes rfl rfl ?_
    refine At.val (Val.bin rfl rfl rfl) rfl rfl rfl ?_
    refine At.val (Val.pickF rfl rfl) rfl rfl rfl ?_
    refine At.nil ?_
    exact At.boolEnd rfl (by first | exact (decide_eq_true (by omega)).symm | exact (decide_eq_false (by omega)).symm | (apply Bool.eq_iff_iff.2; simp only [decide_eq_true_eq, beq_iff_eq, bne_iff_ne, ne_eq, Bool.not_eq_true', decide_eq_false_iff_not]; omega) | rfl | (simp_all; done) | (simp_all; omega)) (by repeat (first | exact Sub.nil | refine Sub.cons rfl ?_))
  ·skip
   simp only [List.drop_succ_cons, List.drop_zero]
   refine tE ?_
   refine At.cond rfl (fun h3 => ?_) (fun h3 => ?_)
   ·skip
    try simp only [hasB, isSizeB, Bool.not_eq_true', Bool.not_eq_false', bne_iff_ne, ne_eq, bne_eq_false_iff_eq, beq_iff_eq, beq_eq_false_iff_ne, decide_eq_true_eq, decide_eq_false_iff_not, gt_iff_lt, ge_iff_le] at h3
    refine tR ?_
    refine tA rfl rfl ?_
    refine tE ?_
    refine At.retC ?_
    refine At.thenR ?_
    refine At.ret1 (.inl rfl) rfl rfl rfl (fun w hw => ?_)
    exact ⟨rfl, hw⟩
   ·skip
    try simp only [hasB, isSizeB, Bool.not_eq_true', Bool.not_eq_false', bne_iff_ne, ne_eq, bne_eq_false_iff_eq, beq_iff_eq, beq_eq_false_iff_ne, decide_eq_true_eq, decide_eq_false_iff_not, gt_iff_lt, ge_iff_le] at h3
    cases h3

end Go.Proofs.Ytgighokkflchmaa
