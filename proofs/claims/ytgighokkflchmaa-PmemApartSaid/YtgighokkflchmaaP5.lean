/- A flush. -/
import Derived.Test.YtgighokkflchmaaP4
set_option linter.unusedVariables false
set_option linter.unusedSimpArgs false
namespace Go.Proofs.Ytgighokkflchmaa
open Go Go.Wk

def fenceW (w : Wd) : Wd := if w.mark = 0 then w else ⟨(w.news[w.mark - 1]?).getD w.old, w.news.drop w.mark, 0⟩
def fenceD (σ : Ds) : Ds := { σ with ws := σ.ws.map fenceW }
theorem fenceW_calm {w : Wd} (h : w.mark = 0) : fenceW w = w := if_pos h
theorem fence_good {σ : Ds} (hg : Dgood σ) : Dgood (fenceD σ) :=
  ⟨by simpa [fenceD] using hg.pos, by simpa [fenceD] using hg.len, by simpa [fenceD] using hg.lines, hg.steps, hg.left, fun w hm => by
    obtain ⟨u, hu, rfl⟩ := List.mem_map.1 hm
    have := hg.word u hu
    unfold fenceW
    split
    · exact this
    · simp only [List.length_drop, fenceD]; omega⟩
/-- Which words a fence has settled. -/
def FInv (W ws : List Wd) (left : Int → Bool) : Prop := ws.length = W.length ∧ ∀ (k : Nat) w, W[k]? = some w → ws[k]? = some (if left (8 * (k : Int)) then w else fenceW w)
theorem finv_start {σ : Ds} (hg : Dgood σ) (g : Nat → Nat × Value) : FInv σ.ws σ.ws (fun k => (mk σ.ws g k).isSome) := ⟨rfl, fun k w hk => by
  rw [hk]
  congr 1
  show w = if (mk σ.ws g (8 * (k : Int))).isSome = true then w else fenceW w
  rw [mk_at]
  by_cases hn : w.news = []
  · rw [mkN_none hk hn]
    have := (hg.word w (List.mem_of_getElem? hk)).1
    rw [hn] at this
    exact (fenceW_calm (by simpa using this)).symm
  · rw [mkN_some hk hn]; rfl⟩
theorem finv_step {W ws : List Wd} {left left' : Int → Bool} {k : Nat} {wd : Wd} (h : FInv W ws left) (hl : left (8 * (k : Int)) = true) (hk : ws[k]? = some wd) (h1 : left' (8 * (k : Int)) = false) (h2 : ∀ q, q ≠ 8 * (k : Int) → left' q = left q) : FInv W (ws.set k (fenceW wd)) left' := ⟨by simpa using h.1, fun j w hj => by
  by_cases e : j = k
  · subst e
    have := h.2 j w hj
    rw [hl, if_pos rfl, hk] at this
    have := Option.some.inj this
    subst this
    rw [h1, if_neg (by simp), List.getElem?_set_self (List.getElem?_eq_some_iff.1 hk).1]
  · rw [List.getElem?_set_ne (Ne.symm e), h2 _ (by omega)]
    exact h.2 j w hj⟩
theorem finv_end {W ws : List Wd} {left : Int → Bool} (h : FInv W ws left) (hl : ∀ k, left k = false) : ws = W.map fenceW := by
  apply List.ext_getElem?
  intro j
  rw [List.getElem?_map]
  cases hj : W[j]? with
  | none => rw [List.getElem?_eq_none (by have := List.getElem?_eq_none_iff.1 hj; rw [h.1]; exact this)]; rfl
  | some w => rw [h.2 j w hj, hl, if_neg (by simp)]; rfl
theorem finv_word {W ws : List Wd} {left : Int → Bool} {k : Nat} {wd : Wd} (h : FInv W ws left) (hl : left (8 * (k : Int)) = true) (hk : ws[k]? = some wd) : W[k]? = some wd := by
  cases hj : W[k]? with
  | none =>
    have h1 := List.getElem?_eq_none_iff.1 hj
    have h2 := (List.getElem?_eq_some_iff.1 hk).1
    rw [h.1] at h2; omega
  | some w =>
    have := h.2 k w hj
    rw [hl, if_pos rfl, hk] at this
    exact this.symm

theorem flush_d (p : Nat) (γ : Gh) (σ : Ds) (a : Int) (f : Nat) (w : World) (h0 : 0 ≤ a) (hl : a < 8 * (σ.ws.length : Int)) (hf : 8 * (f : Int) = a - a % 64) (hs : σ.steps + 1 ≤ 1099511627776) (hno : deadB σ = false) (hd : (Dev p γ σ).holds w) :
    DevU Try.prog 20 [.pointer (some ⟨p, 0, none⟩), .int .i64 a] p γ σ (.int .i64 0) (flushK (stepD σ) f 8) w := by
 refine enterVc hd Try.func20 rfl Try.ntmps20 rfl ?_
 have hgd := Dev.good hd
 have hln := hgd.len
 have hll := hgd.lines
 have hg1 := dgood_step hgd hs
 have hsl : (stepD σ).ws.length = σ.ws.length := rfl
 have hf8 : f % 8 = 0 := by omega
 simp only [envOf]
 refine tR ?_
 refine tA rfl rfl ?_
 refine tE ?_
 refine At.seq ?_
 refine tR ?_
 refine tM rfl rfl ?_
 refine tM rfl rfl ?_
 refine At.callK 0 rfl (fun w hw hr => has_k _ _ _ _ _ w hr) Try.call22 rfl rfl ?_
 refine At.val (Val.not rfl) rfl rfl rfl ?_
 refine tE ?_
 refine At.cond rfl (fun h1 => ?_) (fun h1 => ?_)
 ·skip
  try simp only [hasB, isSizeB, Bool.not_eq_true', Bool.not_eq_false', bne_iff_ne, ne_eq, bne_eq_false_iff_eq, beq_iff_eq, beq_eq_false_iff_ne, decide_eq_true_eq, decide_eq_false_iff_not, gt_iff_lt, ge_iff_le] at h1
  omega
 ·skip
  try simp only [hasB, isSizeB, Bool.not_eq_true', Bool.not_eq_false', bne_iff_ne, ne_eq, bne_eq_false_iff_eq, beq_iff_eq, beq_eq_false_iff_ne, decide_eq_true_eq, decide_eq_false_iff_not, gt_iff_lt, ge_iff_le] at h1
  refine At.skipC ?_
  refine At.thenN ?_
  refine At.seq ?_
  refine tR ?_
  refine tM rfl rfl ?_
  refine At.callD 0 rfl (fun w hw hr => step_d _ _ _ w hs hno hr) Try.call39 rfl rfl (fun y2 => ?_)
  simp only [sc0, scS]
  refine tA rfl rfl ?_
  refine tE ?_
  refine tR ?_
  refine tM rfl rfl ?_
  refine At.val (Val.bin rfl rfl rfl) rfl rfl rfl ?_
  refine tE ?_
  refine At.condF rfl ?_
  refine At.skipC ?_
  refine At.thenN ?_
  refine tR ?_
  refine tM rfl rfl ?_
  refine tM rfl rfl ?_
  refine At.val (Val.remI rfl rfl (by omega) (by decide)) rfl rfl rfl ?_
  refine At.val (Val.subI rfl rfl (by omega) (by omega)) rfl rfl rfl ?_
  rw [← hf]
  refine tA rfl rfl ?_
  refine tE ?_
  refine At.seq ?_
  refine At.seq ?_
  refine At.openS 0 rfl ?_
  simp only [devL, List.cons_append, List.nil_append, ec0, ecS]
  refine At.region ?_
  refine tM rfl rfl ?_
  refine tA rfl rfl ?_
  refine tE ?_
  refine At.block ?_
  skip
  refine At.loop (σ := Nat) (fun j => j ≤ 8) (fun j => [(0, .pointer (some ⟨p, 0, none⟩)), (6, .int .i64 (8 * (f : Int))), (7, .int .i64 (8 * ((f + j : Nat) : Int)))]) (fun j => [blk p tDv [y2.vo, .map (some y2.mb), .int .i64 ((stepD σ).steps : Int), .bool (stepD σ).armed, .int .i64 ((stepD σ).left : Int)], wrow tW y2.vo (olds (stepD σ).ws), mapR y2.mb (mk (flushK (stepD σ) f j).ws y2.g), fam (dI (flushK (stepD σ) f j).ws y2.g), factR (Dgood (stepD σ))]) (fun j => 8 - j) 0 (Nat.zero_le _) (Sub.cons rfl (Sub.cons rfl (Sub.cons rfl Sub.nil))) (List.Perm.refl _) ?_
  intro j hs
  have hfr := flushK_rest (stepD σ) f j
  refine At.seq ?_
  refine tR ?_
  refine tM rfl rfl ?_
  refine tM rfl rfl ?_
  first | refine At.val (Val.addI rfl rfl (by omega) (by omega)) rfl rfl rfl ?_ | refine At.val (Val.bin rfl rfl rfl) rfl rfl rfl ?_
  refine At.val (Val.bin rfl rfl rfl) rfl rfl rfl ?_
  refine tE ?_
  refine At.cond rfl (fun h3 => ?_) (fun h3 => ?_)
  ·skip
   try simp only [hasB, isSizeB, Bool.not_eq_true', Bool.not_eq_false', bne_iff_ne, ne_eq, bne_eq_false_iff_eq, beq_iff_eq, beq_eq_false_iff_ne, decide_eq_true_eq, decide_eq_false_iff_not, gt_iff_lt, ge_iff_le] at h3
   have hj : j < 8 := by omega
   have hfj : f + j < (stepD σ).ws.length := by omega
   refine At.skipC ?_
   refine At.thenN ?_
   refine At.seq ?_
   refine At.block ?_
   refine tR ?_
   refine tM rfl rfl ?_
   refine At.val (Val.nilCheck rfl) rfl rfl rfl ?_
   refine At.val (Val.field 1 rfl fo_71_1 rfl) rfl rfl rfl ?_
   refine At.val (Val.load (i := 0) Try.isAgg69 rfl rfl rfl) rfl rfl rfl ?_
   refine tM rfl rfl ?_
   refine At.val (Val.look (i := 2) Try.underlying69 Try.underlying3 Try.zeroValue65 rfl rfl rfl) rfl rfl rfl ?_
   obtain ⟨wd, hkw⟩ : ∃ wd, (flushK (stepD σ) f j).ws[f + j]? = some wd := ⟨_, List.getElem?_eq_getElem (by rw [hfr.2.2.2.1]; exact hfj)⟩
   by_cases hn : wd.news = []
   ·skip
    rw [mk_at, mkN_none hkw hn]
    refine tA rfl rfl ?_
    refine tE ?_
    refine tR ?_
    refine tM rfl rfl ?_
    refine At.val (Val.neNil (t := 65) (by kernel_rfl) rfl) rfl rfl rfl ?_
    refine tE ?_
    refine At.condF rfl ?_
    refine At.skipC ?_
    refine At.blkN ?_
    refine At.thenN ?_
    refine At.region ?_
    refine tM rfl rfl ?_
    first | refine At.val (Val.addI rfl rfl (by omega) (by omega)) rfl rfl rfl ?_ | refine At.val (Val.bin rfl rfl rfl) rfl rfl rfl ?_
    refine tA rfl rfl ?_
    refine tE ?_
    exact At.again (j + 1) (show j + 1 ≤ 8 by omega) (by omega) (Sub.cons rfl (Sub.cons rfl (Sub.cons (congrArg (fun z => some (Value.int IntKind.i64 z)) (by omega)) Sub.nil))) (by rw [flushK_nil hg1 hkw hn])
   ·skip
    rw [mk_at, mkN_some hkw hn]
    refine tA rfl rfl ?_
    refine tE ?_
    refine tR ?_
    refine tM rfl rfl ?_
    refine At.val (Val.neNil (t := 65) (by kernel_rfl) rfl) rfl rfl rfl ?_
    refine tE ?_
    refine At.condT rfl ?_
    refine At.focusD 3 rfl hkw hn ?_
    simp only [ec0, ecS]
    refine At.region ?_
    refine tM rfl rfl ?_
    refine tM rfl rfl ?_
    refine At.val (Val.nilCheck rfl) rfl rfl rfl ?_
    refine At.val (Val.field 0 rfl fo_68_0 rfl) rfl rfl rfl ?_
    refine At.val (Val.load (i := 0) Try.isAgg66 rfl rfl rfl) rfl rfl rfl ?_
    refine At.val (Val.lenWin (i := 1) rfl Try.underlying66 rfl) rfl rfl rfl ?_
    refine At.val (Val.nilCheck rfl) rfl rfl rfl ?_
    refine At.val (Val.field 1 rfl fo_68_1 rfl) rfl rfl rfl ?_
    refine At.store (i := 0) Try.sizeOf3 rfl rfl rfl rfl (by first | decide | simp) ?_
    simp only [sc0, scS]
    refine At.nil ?_
    rw [List.length_map]
    refine At.unfocusD (wd := markW wd) (List.getElem?_eq_some_iff.1 hkw).1 hn ?_
    refine At.rot3 ?_
    rw [← mk_keep (v' := (y2.g (f + j)).2) (wd' := markW wd) hkw hn hn, show upd y2.g (f + j) ((y2.g (f + j)).1, (y2.g (f + j)).2) = y2.g from upd_same _ _, show (flushK (stepD σ) f j).ws.set (f + j) (markW wd) = (flushK (stepD σ) f (j + 1)).ws from by rw [flushK_succ hkw]; rfl]
    refine At.blkN ?_
    refine At.thenN ?_
    refine At.region ?_
    refine tM rfl rfl ?_
    first | refine At.val (Val.addI rfl rfl (by omega) (by omega)) rfl rfl rfl ?_ | refine At.val (Val.bin rfl rfl rfl) rfl rfl rfl ?_
    refine tA rfl rfl ?_
    refine tE ?_
    exact At.again (j + 1) (show j + 1 ≤ 8 by omega) (by omega) (Sub.cons rfl (Sub.cons rfl (Sub.cons (congrArg (fun z => some (Value.int IntKind.i64 z)) (by omega)) Sub.nil))) (List.Perm.refl _)
  ·skip
   try simp only [hasB, isSizeB, Bool.not_eq_true', Bool.not_eq_false', bne_iff_ne, ne_eq, bne_eq_false_iff_eq, beq_iff_eq, beq_eq_false_iff_ne, decide_eq_true_eq, decide_eq_false_iff_not, gt_iff_lt, ge_iff_le] at h3
   obtain rfl : j = 8 := by omega
   refine At.exitC ?_
   refine At.thenX ?_
   refine At.thenX ?_
   refine At.blkX ?_
   refine At.thenN ?_
   refine tR ?_
   refine tA rfl rfl ?_
   refine tE ?_
   refine At.retC ?_
   refine At.ret1 (.inl rfl) rfl rfl rfl (fun w hw => ?_)
   obtain ⟨e1, e2, e3, _, e5⟩ := flushK_rest (stepD σ) f 8
   exact ⟨⟨y2.vo, y2.mb, y2.g⟩, rfl, toDev (F := []) (flushK_good f hg1 8) (hw.drop (show List.Sublist [_, _, _, _] _ from (List.Sublist.refl _ |>.cons _ |>.cons_cons _ |>.cons_cons _ |>.cons_cons _ |>.cons_cons _))) (by rw [e1, e2, e3]) (by rw [e5]) rfl rfl⟩

theorem flush_no (p : Nat) (γ : Gh) (σ : Ds) (a : Int) (w : World) (ha : ¬ (0 ≤ a ∧ a < 8 * (σ.ws.length : Int))) (hd : (Dev p γ σ).holds w) :
    Upd Try.prog 20 [.pointer (some ⟨p, 0, none⟩), .int .i64 a] (Dev p γ σ) (.int .i64 11) (Dev p γ σ) w := by
 refine enterVc hd Try.func20 rfl Try.ntmps20 rfl ?_
 have hgd := Dev.good hd
 simp only [envOf]
 refine tR ?_
 refine tA rfl rfl ?_
 refine tE ?_
 refine At.seq ?_
 refine tR ?_
 refine tM rfl rfl ?_
 refine tM rfl rfl ?_
 refine At.callK 0 rfl (fun w hw hr => has_k _ _ _ _ _ w hr) Try.call22 rfl rfl ?_
 refine At.val (Val.not rfl) rfl rfl rfl ?_
 refine tE ?_
 refine At.cond rfl (fun h1 => ?_) (fun h1 => ?_)
 ·skip
  try simp only [hasB, isSizeB, Bool.not_eq_true', Bool.not_eq_false', bne_iff_ne, ne_eq, bne_eq_false_iff_eq, beq_iff_eq, beq_eq_false_iff_ne, decide_eq_true_eq, decide_eq_false_iff_not, gt_iff_lt, ge_iff_le] at h1
  refine tR ?_
  refine tA rfl rfl ?_
  refine tE ?_
  refine At.retC ?_
  refine At.thenR ?_
  refine At.ret1 (.inl rfl) rfl rfl rfl (fun w hw => ?_)
  exact ⟨rfl, hw⟩
 ·skip
  try simp only [hasB, isSizeB, Bool.not_eq_true', Bool.not_eq_false', bne_iff_ne, ne_eq, bne_eq_false_iff_eq, beq_iff_eq, beq_eq_false_iff_ne, decide_eq_true_eq, decide_eq_false_iff_not, gt_iff_lt, ge_iff_le] at h1
  omega

theorem flush_0 (p : Nat) (γ : Gh) (σ : Ds) (a : Int) (w : World) (h0 : 0 ≤ a) (hl : a < 8 * (σ.ws.length : Int)) (hno : deadB σ = true) (hd : (Dev p γ σ).holds w) :
    Upd Try.prog 20 [.pointer (some ⟨p, 0, none⟩), .int .i64 a] (Dev p γ σ) (.int .i64 13) (Dev p γ σ) w := by
 refine enterVc hd Try.func20 rfl Try.ntmps20 rfl ?_
 have hgd := Dev.good hd
 simp only [envOf]
 refine tR ?_
 refine tA rfl rfl ?_
 refine tE ?_
 refine At.seq ?_
 refine tR ?_
 refine tM rfl rfl ?_
 refine tM rfl rfl ?_
 refine At.callK 0 rfl (fun w hw hr => has_k _ _ _ _ _ w hr) Try.call22 rfl rfl ?_
 refine At.val (Val.not rfl) rfl rfl rfl ?_
 refine tE ?_
 refine At.cond rfl (fun h1 => ?_) (fun h1 => ?_)
 ·skip
  try simp only [hasB, isSizeB, Bool.not_eq_true', Bool.not_eq_false', bne_iff_ne, ne_eq, bne_eq_false_iff_eq, beq_iff_eq, beq_eq_false_iff_ne, decide_eq_true_eq, decide_eq_false_iff_not, gt_iff_lt, ge_iff_le] at h1
  omega
 ·skip
  try simp only [hasB, isSizeB, Bool.not_eq_true', Bool.not_eq_false', bne_iff_ne, ne_eq, bne_eq_false_iff_eq, beq_iff_eq, beq_eq_false_iff_ne, decide_eq_true_eq, decide_eq_false_iff_not, gt_iff_lt, ge_iff_le] at h1
  refine At.skipC ?_
  refine At.thenN ?_
  refine At.seq ?_
  refine tR ?_
  refine tM rfl rfl ?_
  refine At.callK 0 rfl (fun w hw hr => step_0 _ _ _ w hno hr) Try.call39 rfl rfl ?_
  refine tA rfl rfl ?_
  refine tE ?_
  refine tR ?_
  refine tM rfl rfl ?_
  refine At.val (Val.bin rfl rfl rfl) rfl rfl rfl ?_
  refine tE ?_
  refine At.condT rfl ?_
  refine tR ?_
  refine tM rfl rfl ?_
  refine tA rfl rfl ?_
  refine tE ?_
  refine At.retC ?_
  refine At.thenR ?_
  refine At.ret1 (.inl rfl) rfl rfl rfl (fun w hw => ?_)
  exact ⟨rfl, hw⟩

end Go.Proofs.Ytgighokkflchmaa
