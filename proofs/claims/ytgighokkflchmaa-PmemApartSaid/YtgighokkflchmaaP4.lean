/- A store. -/
import Derived.Test.YtgighokkflchmaaP3
set_option linter.unusedVariables false
set_option linter.unusedSimpArgs false
namespace Go.Proofs.Ytgighokkflchmaa
open Go Go.Wk

def pushW (w : Wd) (x : BitVec 64) : Wd := { w with news := w.news ++ [x] }
def markW (w : Wd) : Wd := { w with mark := w.news.length }
def setD (σ : Ds) (k : Nat) (w : Wd) : Ds := { σ with ws := σ.ws.set k w }
theorem mem_set_or {ws : List Wd} {k : Nat} {a w : Wd} (h : w ∈ ws.set k a) : w = a ∨ w ∈ ws := by
  rcases List.mem_or_eq_of_mem_set h with h | h
  · exact .inr h
  · exact .inl h
theorem push_good {σ : Ds} {k : Nat} {wd : Wd} {x : BitVec 64} (hg : Dgood σ) (hk : σ.ws[k]? = some wd) (hs : σ.steps + 1 ≤ 1099511627776) : Dgood (setD (stepD σ) k (pushW wd x)) := by
  have h1 := dgood_step hg hs
  have hw := hg.word wd (List.mem_of_getElem? hk)
  refine ⟨by simpa [setD] using h1.pos, by simpa [setD] using h1.len, by simpa [setD] using h1.lines, h1.steps, h1.left, fun w hm => ?_⟩
  rcases mem_set_or hm with rfl | h2
  · simp only [pushW, setD, stepD, List.length_append, List.length_singleton]; omega
  · exact h1.word w h2
theorem mark_good {σ : Ds} {k : Nat} {wd : Wd} (hg : Dgood σ) (hk : σ.ws[k]? = some wd) : Dgood (setD σ k (markW wd)) := by
  have hw := hg.word wd (List.mem_of_getElem? hk)
  refine ⟨by simpa [setD] using hg.pos, by simpa [setD] using hg.len, by simpa [setD] using hg.lines, hg.steps, hg.left, fun w hm => ?_⟩
  rcases mem_set_or hm with rfl | h2
  · exact ⟨Nat.le_refl _, hw.2⟩
  · exact hg.word w h2
/-- The first j words from f on are marked. -/
def flushK (σ : Ds) (f : Nat) : Nat → Ds
  | 0 => σ
  | j + 1 => match (flushK σ f j).ws[f + j]? with | some w => setD (flushK σ f j) (f + j) (markW w) | none => flushK σ f j
theorem flushK_rest (σ : Ds) (f : Nat) : ∀ j, (flushK σ f j).steps = σ.steps ∧ (flushK σ f j).armed = σ.armed ∧ (flushK σ f j).left = σ.left ∧ (flushK σ f j).ws.length = σ.ws.length ∧ olds (flushK σ f j).ws = olds σ.ws
  | 0 => ⟨rfl, rfl, rfl, rfl, rfl⟩
  | j + 1 => by
    obtain ⟨h1, h2, h3, h4, h5⟩ := flushK_rest σ f j
    unfold flushK
    split
    · rename_i w hw
      exact ⟨h1, h2, h3, by simpa [setD] using h4, (olds_same (wd' := markW w) hw rfl).trans h5⟩
    · exact ⟨h1, h2, h3, h4, h5⟩
theorem flushK_good {σ : Ds} (f : Nat) (hg : Dgood σ) : ∀ j, Dgood (flushK σ f j)
  | 0 => hg
  | j + 1 => by
    unfold flushK
    split
    · rename_i w hw; exact mark_good (flushK_good f hg j) hw
    · exact flushK_good f hg j
theorem flushK_succ {σ : Ds} {f j : Nat} {w : Wd} (h : (flushK σ f j).ws[f + j]? = some w) : flushK σ f (j + 1) = setD (flushK σ f j) (f + j) (markW w) := by
  conv => lhs; unfold flushK
  rw [h]
theorem set_get {ws : List Wd} {k : Nat} {w : Wd} (h : ws[k]? = some w) : ws.set k w = ws := set_same h
theorem flushK_nil {σ : Ds} {f j : Nat} {w : Wd} (hg : Dgood σ) (h : (flushK σ f j).ws[f + j]? = some w) (hn : w.news = []) : flushK σ f (j + 1) = flushK σ f j := by
  rw [flushK_succ h]
  have hw := ((flushK_good f hg j).word w (List.mem_of_getElem? h)).1
  have : markW w = w := by cases w; simp only [markW] at *; subst hn; simp at hw ⊢; omega
  unfold setD
  rw [this, set_get h]

theorem store_d (p : Nat) (γ : Gh) (σ : Ds) (k : Nat) (wd : Wd) (x : BitVec 64) (w : World) (hk : σ.ws[k]? = some wd) (hs : σ.steps + 1 ≤ 1099511627776) (hno : deadB σ = false) (hd : (Dev p γ σ).holds w) :
    DevU Try.prog 19 [.pointer (some ⟨p, 0, none⟩), .int .i64 (8 * (k : Int)), b64 x] p γ σ (.int .i64 0) (setD (stepD σ) k (pushW wd x)) w := by
 refine enterVc hd Try.func19 rfl Try.ntmps19 rfl ?_
 have hgd := Dev.good hd
 have hkl := (List.getElem?_eq_some_iff.1 hk).1
 have hk1 : (stepD σ).ws[k]? = some wd := hk
 have hkl1 : k < (stepD σ).ws.length := hkl
 have hwd := hgd.word wd (List.mem_of_getElem? hk)
 have hpn : (pushW wd x).news ≠ [] := by simp [pushW]
 simp only [envOf]
 refine tR ?_
 refine tA rfl rfl ?_
 refine tE ?_
 refine At.seq ?_
 refine tR ?_
 refine tM rfl rfl ?_
 refine tM rfl rfl ?_
 refine At.callK 0 rfl (fun w hw hr => (place_at (σ := σ) hkl) ▸ place_k _ _ _ _ w hr) Try.call38 rfl rfl ?_
 refine tA rfl rfl ?_
 refine tE ?_
 refine tR ?_
 refine tM rfl rfl ?_
 refine At.val (Val.bin rfl rfl rfl) rfl rfl rfl ?_
 refine tE ?_
 refine At.condF rfl ?_
 refine At.skipC ?_
 refine At.thenN ?_
 refine At.seq ?_
 refine tR ?_
 refine tM rfl rfl ?_
 refine At.callD 0 rfl (fun w hw hr => step_d _ _ _ w hs hno hr) Try.call39 rfl rfl (fun y1 => ?_)
 simp only [sc0, scS]
 refine tA rfl rfl ?_
 refine tE ?_
 refine tR ?_
 refine tM rfl rfl ?_
 refine At.val (Val.bin rfl rfl rfl) rfl rfl rfl ?_
 refine tE ?_
 refine At.condF rfl ?_
 refine At.skipC ?_
 refine At.thenN ?_
 refine At.seq ?_
 refine At.openS 0 rfl ?_
 simp only [devL, List.cons_append, List.nil_append, ec0, ecS]
 refine At.region ?_
 refine tM rfl rfl ?_
 refine At.val (Val.nilCheck rfl) rfl rfl rfl ?_
 refine At.val (Val.field 1 rfl fo_71_1 rfl) rfl rfl rfl ?_
 refine At.val (Val.load (i := 0) Try.isAgg69 rfl rfl rfl) rfl rfl rfl ?_
 refine tM rfl rfl ?_
 refine At.val (Val.look (i := 2) Try.underlying69 Try.underlying3 Try.zeroValue65 rfl rfl rfl) rfl rfl rfl ?_
 by_cases hn : wd.news = []
 ·skip
  rw [mk_at, mkN_none hk1 hn]
  refine tA rfl rfl ?_
  refine tE ?_
  refine At.seq ?_
  refine tR ?_
  refine tM rfl rfl ?_
  refine At.val (Val.eqNil (t := 65) (by kernel_rfl) rfl) rfl rfl rfl ?_
  refine tE ?_
  refine At.condT rfl ?_
  refine tR ?_
  refine At.val (Val.build (fun a ha => by simp only [List.map_toArray, List.map_cons, List.map_nil] <;> rfl) (bld_68_)) rfl rfl rfl ?_
  refine At.box rfl rfl rfl (fun b2 => ?_)
  refine tA rfl rfl ?_
  refine tE ?_
  refine At.region ?_
  refine tM rfl rfl ?_
  refine At.val (Val.nilCheck rfl) rfl rfl rfl ?_
  refine At.val (Val.field 1 rfl fo_71_1 rfl) rfl rfl rfl ?_
  refine At.val (Val.load (i := 1) Try.isAgg69 rfl rfl rfl) rfl rfl rfl ?_
  refine tM rfl rfl ?_
  refine tM rfl rfl ?_
  refine At.mapSet (i := 3) Try.underlying69 Try.underlying3 rfl rfl rfl rfl (by rw [mk_at, mkN_none hk1 hn]) ?_
  simp only [sc0, scS]
  refine tE ?_
  refine At.seq ?_
  refine At.winNil tW ?_
  have hwl : ([] : List Value).length = 0 := rfl
  refine At.region ?_
  refine tM rfl rfl ?_
  refine tM rfl rfl ?_
  refine At.val (Val.nilCheck rfl) rfl rfl rfl ?_
  refine At.val (Val.field 0 rfl fo_68_0 rfl) rfl rfl rfl ?_
  refine At.val (Val.load (i := 1) Try.isAgg66 rfl rfl rfl) rfl rfl rfl ?_
  refine tM rfl rfl ?_
  refine At.buildSl (fun a ha => by simp only [List.map_toArray, List.map_cons, List.map_nil, ha.eval (x := (.tmp 42)) rfl]; try rfl) (bs_66_1 _ ) rfl (fun b3 => ?_)
  refine At.appendWin1 (i := 1) (j := 0) (by_ := 8) Try.underlying66 info_32 rfl rfl rfl rfl rfl rfl rfl rfl rfl (by rw [hwl]; omega) (by rw [hwl]; omega) rfl (fun v4 => ?_)
  simp only [sc0, scS]
  refine At.drop 0 ?_
  simp only [ec0, ecS]
  refine At.val (Val.nilCheck rfl) rfl rfl rfl ?_
  refine At.val (Val.field 0 rfl fo_68_0 rfl) rfl rfl rfl ?_
  refine At.winOne 0 rfl (fun ho => ?_)
  refine At.store (i := 1) Try.sizeOf66 rfl rfl ho rfl (by simp) ?_
  simp only [sc0, scS]
  refine At.nil ?_
  refine At.bring 5 rfl ?_
  simp only [ec0, ecS]
  refine At.bring 1 rfl ?_
  simp only [ec0, ecS]
  refine At.bring 2 rfl ?_
  simp only [ec0, ecS]
  rw [show ([] : List Value) ++ [b64 x] = (pushW wd x).news.map b64 from by simp [pushW, hn]]
  refine At.bornD0 (wd := pushW wd x) (by have := hwd.1; rw [hn] at this; simpa [pushW] using this) hk1 hn hpn ?_
  refine At.rot3 ?_
  refine At.thenN ?_
  refine tR ?_
  refine tA rfl rfl ?_
  refine tE ?_
  refine At.retC ?_
  refine At.ret1 (.inl rfl) rfl rfl rfl (fun w hw => ?_)
  exact ⟨⟨y1.vo, y1.mb, upd y1.g k (b2, v4)⟩, rfl, toDev (F := []) (push_good hgd hk hs) (hw.drop (show List.Sublist [_, _, _, _] _ from (List.Sublist.refl _ |>.cons _ |>.cons_cons _ |>.cons_cons _ |>.cons_cons _ |>.cons_cons _))) rfl (congrArg (wrow tW y1.vo) (olds_same (ws := (stepD σ).ws) (wd' := pushW wd x) hk1 rfl).symm) (congrArg (mapR y1.mb) (mk_push hkl1 hpn).symm) rfl⟩
 ·skip
  rw [mk_at, mkN_some hk1 hn]
  refine tA rfl rfl ?_
  refine tE ?_
  refine At.seq ?_
  refine At.seq ?_
  refine At.focusD 3 rfl hk1 hn ?_
  simp only [ec0, ecS]
  refine At.region ?_
  refine tM rfl rfl ?_
  refine At.val (Val.eqNil (t := 65) (by kernel_rfl) rfl) rfl rfl rfl ?_
  refine tE ?_
  refine At.condF rfl ?_
  refine At.skipC ?_
  refine At.thenN ?_
  refine At.seq ?_
  have hwl : (wd.news.map b64).length = wd.news.length := List.length_map ..
  refine At.region ?_
  refine tM rfl rfl ?_
  refine tM rfl rfl ?_
  refine At.val (Val.nilCheck rfl) rfl rfl rfl ?_
  refine At.val (Val.field 0 rfl fo_68_0 rfl) rfl rfl rfl ?_
  refine At.val (Val.load (i := 0) Try.isAgg66 rfl rfl rfl) rfl rfl rfl ?_
  refine tM rfl rfl ?_
  refine At.buildSl (fun a ha => by simp only [List.map_toArray, List.map_cons, List.map_nil, ha.eval (x := (.tmp 42)) rfl]; try rfl) (bs_66_1 _ ) rfl (fun b5 => ?_)
  refine At.appendWin1 (i := 2) (j := 0) (by_ := 8) Try.underlying66 info_32 rfl rfl rfl rfl rfl rfl rfl rfl rfl (by rw [hwl]; omega) (by rw [hwl]; omega) rfl (fun v6 => ?_)
  simp only [sc0, scS]
  refine At.drop 0 ?_
  simp only [ec0, ecS]
  refine At.val (Val.nilCheck rfl) rfl rfl rfl ?_
  refine At.val (Val.field 0 rfl fo_68_0 rfl) rfl rfl rfl ?_
  refine At.winOne 1 rfl (fun ho => ?_)
  refine At.store (i := 0) Try.sizeOf66 rfl rfl ho rfl (by simp) ?_
  simp only [sc0, scS]
  refine At.nil ?_
  refine At.bring 2 rfl ?_
  simp only [ec0, ecS]
  refine At.bring 2 rfl ?_
  simp only [ec0, ecS]
  refine At.bring 2 rfl ?_
  simp only [ec0, ecS]
  rw [show wd.news.map b64 ++ [b64 x] = (pushW wd x).news.map b64 from by simp [pushW]]
  refine At.unfocusD (wd := pushW wd x) hkl1 hpn ?_
  refine At.rot3 ?_
  refine At.thenN ?_
  refine tR ?_
  refine tA rfl rfl ?_
  refine tE ?_
  refine At.retC ?_
  refine At.ret1 (.inl rfl) rfl rfl rfl (fun w hw => ?_)
  exact ⟨⟨y1.vo, y1.mb, upd y1.g k ((y1.g k).1, v6)⟩, rfl, toDev (F := []) (push_good hgd hk hs) (hw.drop (show List.Sublist [_, _, _, _] _ from (List.Sublist.refl _ |>.cons _ |>.cons_cons _ |>.cons_cons _ |>.cons_cons _ |>.cons_cons _))) rfl (congrArg (wrow tW y1.vo) (olds_same (ws := (stepD σ).ws) (wd' := pushW wd x) hk1 rfl).symm) (congrArg (mapR y1.mb) (mk_keep hk1 hn hpn).symm) rfl⟩

theorem store_no (p : Nat) (γ : Gh) (σ : Ds) (a : Int) (x : BitVec 64) (w : World) (ha : placeE σ a ≠ 0) (hd : (Dev p γ σ).holds w) :
    Upd Try.prog 19 [.pointer (some ⟨p, 0, none⟩), .int .i64 a, b64 x] (Dev p γ σ) (.int .i64 (placeE σ a)) (Dev p γ σ) w := by
 refine enterVc hd Try.func19 rfl Try.ntmps19 rfl ?_
 have hgd := Dev.good hd
 simp only [envOf]
 refine tR ?_
 refine tA rfl rfl ?_
 refine tE ?_
 refine At.seq ?_
 refine tR ?_
 refine tM rfl rfl ?_
 refine tM rfl rfl ?_
 refine At.callK 0 rfl (fun w hw hr => place_k _ _ _ _ w hr) Try.call38 rfl rfl ?_
 refine tA rfl rfl ?_
 refine tE ?_
 refine tR ?_
 refine tM rfl rfl ?_
 refine At.val (Val.bin rfl rfl rfl) rfl rfl rfl ?_
 refine tE ?_
 refine At.cond rfl (fun h1 => ?_) (fun h1 => ?_)
 ·skip
  try simp only [hasB, isSizeB, Bool.not_eq_true', Bool.not_eq_false', bne_iff_ne, ne_eq, bne_eq_false_iff_eq, beq_iff_eq, beq_eq_false_iff_ne, decide_eq_true_eq, decide_eq_false_iff_not, gt_iff_lt, ge_iff_le] at h1
  refine tR ?_
  refine tM rfl rfl ?_
  refine tA rfl rfl ?_
  refine tE ?_
  refine At.retC ?_
  refine At.thenR ?_
  refine At.ret1 (.inl rfl) rfl rfl rfl (fun w hw => ?_)
  exact ⟨rfl, hw⟩
 ·skip
  try simp only [hasB, isSizeB, Bool.not_eq_true', Bool.not_eq_false', bne_iff_ne, ne_eq, bne_eq_false_iff_eq, beq_iff_eq, beq_eq_false_iff_ne, decide_eq_true_eq, decide_eq_false_iff_not, gt_iff_lt, ge_iff_le] at h1
  omega

theorem store_0 (p : Nat) (γ : Gh) (σ : Ds) (a : Int) (x : BitVec 64) (w : World) (ha : placeE σ a = 0) (hno : deadB σ = true) (hd : (Dev p γ σ).holds w) :
    Upd Try.prog 19 [.pointer (some ⟨p, 0, none⟩), .int .i64 a, b64 x] (Dev p γ σ) (.int .i64 13) (Dev p γ σ) w := by
 refine enterVc hd Try.func19 rfl Try.ntmps19 rfl ?_
 have hgd := Dev.good hd
 simp only [envOf]
 refine tR ?_
 refine tA rfl rfl ?_
 refine tE ?_
 refine At.seq ?_
 refine tR ?_
 refine tM rfl rfl ?_
 refine tM rfl rfl ?_
 refine At.callK 0 rfl (fun w hw hr => place_k _ _ _ _ w hr) Try.call38 rfl rfl ?_
 refine tA rfl rfl ?_
 refine tE ?_
 refine tR ?_
 refine tM rfl rfl ?_
 refine At.val (Val.bin rfl rfl rfl) rfl rfl rfl ?_
 refine tE ?_
 refine At.cond rfl (fun h1 => ?_) (fun h1 => ?_)
 ·skip
  try simp only [hasB, isSizeB, Bool.not_eq_true', Bool.not_eq_false', bne_iff_ne, ne_eq, bne_eq_false_iff_eq, beq_iff_eq, beq_eq_false_iff_ne, decide_eq_true_eq, decide_eq_false_iff_not, gt_iff_lt, ge_iff_le] at h1
  omega
 ·skip
  try simp only [hasB, isSizeB, Bool.not_eq_true', Bool.not_eq_false', bne_iff_ne, ne_eq, bne_eq_false_iff_eq, beq_iff_eq, beq_eq_false_iff_ne, decide_eq_true_eq, decide_eq_false_iff_not, gt_iff_lt, ge_iff_le] at h1
  refine At.skipC ?_
  refine At.thenN ?_
  refine At.seq ?_
  refine tR ?_
  refine tM rfl rfl ?_
  refine At.callK 0 rfl (fun w hw hr => step_0 _ _ _ w hno hr) Try.call39 rfl rfl ?_
  refine tA rfl rfl ?_
  refine tE ?_
  refine tR ?_
  refine tM rfl rfl ?_
  refine At.val (Val.bin rfl rfl rfl) rfl rfl rfl ?_
  refine tE ?_
  refine At.condT rfl ?_
  refine tR ?_
  refine tM rfl rfl ?_
  refine tA rfl rfl ?_
  refine tE ?_
  refine At.retC ?_
  refine At.thenR ?_
  refine At.ret1 (.inl rfl) rfl rfl rfl (fun w hw => ?_)
  exact ⟨rfl, hw⟩

end Go.Proofs.Ytgighokkflchmaa
