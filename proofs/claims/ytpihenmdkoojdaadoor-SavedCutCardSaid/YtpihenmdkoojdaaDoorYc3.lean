/- Parts of the proof, joined: see the law's text. -/
import Derived.Test.YtpihenmdkoojdaaDoorYc2
import Derived.Shelf.Sort.Plain
import Derived.Test.YtpihenmdkoojdaaDoorChecked
import Derived.Sort.OwnSortedInts
import Derived.Test.YtpihenmdkoojdaaDoorYc1
import Derived.Lib.BufferMore
set_option linter.unusedVariables false
set_option linter.unusedSimpArgs false
namespace Go.Proofs.YtpihenmdkoojdaaDoor
open Go Go.Wk
def armD (σ : Ds) (m : Nat) : Ds := { σ with armed := true, left := m }
theorem armD_good {σ : Ds} {m : Nat} (h : Dgood σ) (hm : m ≤ 9223372036854775807) : Dgood (armD σ m) := ⟨h.pos, h.len, h.lines, h.steps, hm, h.word⟩
theorem place_at {σ : Ds} {k : Nat} (h : k < σ.ws.length) : placeE σ (8 * (k : Int)) = 0 := by unfold placeE; rw [if_pos (by omega), if_pos (by omega)]
theorem place_inv {σ : Ds} {a : Int} (h : placeE σ a = 0) : ∃ k : Nat, a = 8 * (k : Int) ∧ k < σ.ws.length := by
  unfold placeE at h
  split at h
  · split at h
    · exact ⟨(a / 8).toNat, by omega, by omega⟩
    · omega
  · omega
theorem rot3p {a b c f : Res} : List.Perm [f, a, b, c] [a, c, b, f] := by
  refine (List.perm_middle (l₁ := [a, b, c]) (l₂ := [])).symm.trans ?_
  exact ((List.Perm.swap c b [f])).cons a
theorem new_d (N : Nat) (w : World) (hn : isSizeB (8 * (N : Int)) = true) :
    NewDev Tryd.prog 20 [.int .i64 (8 * (N : Int))] (zeroD N) w := by
 refine enter (feet []) [] Tryd.func20 rfl Tryd.ntmps20 rfl ⟨by simp, by simp, by simp, Mod.refl _ _⟩ ?_
 have hnn := hn
 unfold isSizeB at hnn
 rw [decide_eq_true_eq] at hnn
 simp only [envOf]
 refine tR ?_
 refine tA rfl rfl ?_
 refine tA rfl rfl ?_
 refine tE ?_
 refine At.seq ?_
 refine tR ?_
 refine tM rfl rfl ?_
 refine At.callP (fun w hw => isSize_p _ w) Tryd.call43 rfl rfl ?_
 refine At.val (Val.not rfl) rfl rfl rfl ?_
 refine tE ?_
 refine At.cond rfl (fun h1 => ?_) (fun h1 => ?_)
 ·skip
  try simp only [hasB, isSizeB, Bool.not_eq_true', Bool.not_eq_false', bne_iff_ne, ne_eq, bne_eq_false_iff_eq, beq_iff_eq, beq_eq_false_iff_ne, decide_eq_true_eq, decide_eq_false_iff_not, gt_iff_lt, ge_iff_le] at h1
  omega
 ·skip
  try simp only [hasB, isSizeB, Bool.not_eq_true', Bool.not_eq_false', bne_iff_ne, ne_eq, bne_eq_false_iff_eq, beq_iff_eq, beq_eq_false_iff_ne, decide_eq_true_eq, decide_eq_false_iff_not, gt_iff_lt, ge_iff_le] at h1
  refine At.skipC ?_
  refine At.thenN ?_
  refine tR ?_
  refine tM rfl rfl ?_
  refine At.val (Val.quoI rfl rfl (by omega) (by omega) (by decide)) rfl rfl rfl ?_
  rw [show 8 * (N : Int) / 8 = (N : Int) from by omega]
  refine At.makeRowW Tryd.underlying83 info_65 rfl rfl rfl rfl rfl (by omega) rfl (fun v2 => ?_)
  refine At.makeMap rfl (fun mb3 => ?_)
  refine At.rowIs (i := 1) rfl (fun A4 c5 hv => ?_)
  subst hv
  refine At.val (Val.build (fun a ha => by simp only [List.map_toArray, List.map_cons, List.map_nil, ha.eval (x := (.tmp 9)) rfl, ha.eval (x := (.tmp 10)) rfl] <;> rfl) (bld_dev _ _ _ _)) rfl rfl rfl ?_
  refine At.box rfl rfl rfl (fun b6 => ?_)
  refine tA rfl rfl ?_
  refine tA rfl rfl ?_
  refine tE ?_
  refine At.retC ?_
  refine At.ret2 (.inl rfl) rfl rfl rfl rfl (fun w hw => ?_)
  have hgz := zeroD_good hn
  exact ⟨b6, ⟨(.slice A4 ((List.replicate N (0 : BitVec 64)).length) c5), mb3, fun _ => (0, .slice none 0 0)⟩, rfl, toDev (F := []) hgz (Rep.famNil (I := dI (zeroD N).ws (fun _ => (0, .slice none 0 0))) (dI_calm (wz_calm _)) hw |>.perm (rot3p)) rfl (by rw [show olds (zeroD N).ws = List.replicate N 0 from olds_wz N]) (by rw [mk_calm (ws := (zeroD N).ws) (wz_calm _)]) rfl⟩
theorem new_n (n : Int) (w : World) (hn : isSizeB n = true) (N : Nat) (hN : 8 * (N : Int) = n) : NewDev Tryd.prog 20 [.int .i64 n] (zeroD N) w := by
  subst hN; exact new_d N w hn
theorem word_k (p : Nat) (γ : Gh) (σ : Ds) (k : Nat) (wd : Wd) (w : World) (hk : σ.ws[k]? = some wd) (hd : (Dev p γ σ).holds w) :
    Upd Tryd.prog 34 [.pointer (some ⟨p, 0, none⟩), .int .i64 (8 * (k : Int))] (Dev p γ σ) (.tuple #[b64 (nowW wd), .int .i64 0]) (Dev p γ σ) w := by
 refine enterVc hd Tryd.func34 rfl Tryd.ntmps34 rfl ?_
 have hgd := Dev.good hd
 have hkl := (List.getElem?_eq_some_iff.1 hk).1
 have hpl := place_at hkl
 simp only [envOf]
 refine tR ?_
 refine tA rfl rfl ?_
 refine tA rfl rfl ?_
 refine tE ?_
 refine At.seq ?_
 refine tR ?_
 refine tM rfl rfl ?_
 refine tM rfl rfl ?_
 refine At.callK 0 rfl (fun w hw hr => place_k _ _ _ _ w hr) Tryd.call48 rfl rfl ?_
 refine tA rfl rfl ?_
 refine tE ?_
 refine tR ?_
 refine tM rfl rfl ?_
 refine At.val (Val.bin rfl rfl rfl) rfl rfl rfl ?_
 refine tE ?_
 refine At.cond rfl (fun h1 => ?_) (fun h1 => ?_)
 ·skip
  try simp only [hasB, isSizeB, Bool.not_eq_true', Bool.not_eq_false', bne_iff_ne, ne_eq, bne_eq_false_iff_eq, beq_iff_eq, beq_eq_false_iff_ne, decide_eq_true_eq, decide_eq_false_iff_not, gt_iff_lt, ge_iff_le] at h1
  omega
 ·skip
  try simp only [hasB, isSizeB, Bool.not_eq_true', Bool.not_eq_false', bne_iff_ne, ne_eq, bne_eq_false_iff_eq, beq_iff_eq, beq_eq_false_iff_ne, decide_eq_true_eq, decide_eq_false_iff_not, gt_iff_lt, ge_iff_le] at h1
  refine At.skipC ?_
  refine At.thenN ?_
  refine tR ?_
  refine tM rfl rfl ?_
  refine tM rfl rfl ?_
  refine At.callK 0 rfl (fun w hw hr => now_k _ _ _ _ _ w hk hr) Tryd.call55 rfl rfl ?_
  refine tA rfl rfl ?_
  refine tA rfl rfl ?_
  refine tE ?_
  refine At.retC ?_
  refine At.ret2 (.inl rfl) rfl rfl rfl rfl (fun w hw => ?_)
  exact ⟨rfl, hw⟩
theorem arm_d (p : Nat) (γ : Gh) (σ : Ds) (m : Nat) (w : World) (hm : m ≤ 9223372036854775807) (hno : deadB σ = false) (hd : (Dev p γ σ).holds w) :
    DevU Tryd.prog 22 [.pointer (some ⟨p, 0, none⟩), .int .i64 (m : Int)] p γ σ (.int .i64 0) (armD σ m) w := by
 refine enterVc hd Tryd.func22 rfl Tryd.ntmps22 rfl ?_
 have hgd := Dev.good hd
 simp only [envOf]
 refine tR ?_
 refine tA rfl rfl ?_
 refine tE ?_
 refine At.seq ?_
 refine tR ?_
 refine tM rfl rfl ?_
 refine At.val (Val.bin rfl rfl rfl) rfl rfl rfl ?_
 refine tE ?_
 refine At.cond rfl (fun h1 => ?_) (fun h1 => ?_)
 ·skip
  try simp only [hasB, isSizeB, Bool.not_eq_true', Bool.not_eq_false', bne_iff_ne, ne_eq, bne_eq_false_iff_eq, beq_iff_eq, beq_eq_false_iff_ne, decide_eq_true_eq, decide_eq_false_iff_not, gt_iff_lt, ge_iff_le] at h1
  omega
 ·skip
  try simp only [hasB, isSizeB, Bool.not_eq_true', Bool.not_eq_false', bne_iff_ne, ne_eq, bne_eq_false_iff_eq, beq_iff_eq, beq_eq_false_iff_ne, decide_eq_true_eq, decide_eq_false_iff_not, gt_iff_lt, ge_iff_le] at h1
  refine At.skipC ?_
  refine At.thenN ?_
  refine At.seq ?_
  refine tR ?_
  refine tM rfl rfl ?_
  refine At.callK 0 rfl (fun w hw hr => dead_k _ _ _ w hr) Tryd.call44 rfl rfl ?_
  refine tE ?_
  refine At.cond rfl (fun h2 => ?_) (fun h2 => ?_)
  ·skip
   try simp only [hasB, isSizeB, Bool.not_eq_true', Bool.not_eq_false', bne_iff_ne, ne_eq, bne_eq_false_iff_eq, beq_iff_eq, beq_eq_false_iff_ne, decide_eq_true_eq, decide_eq_false_iff_not, gt_iff_lt, ge_iff_le] at h2
   rw [hno] at h2; cases h2
  ·skip
   try simp only [hasB, isSizeB, Bool.not_eq_true', Bool.not_eq_false', bne_iff_ne, ne_eq, bne_eq_false_iff_eq, beq_iff_eq, beq_eq_false_iff_ne, decide_eq_true_eq, decide_eq_false_iff_not, gt_iff_lt, ge_iff_le] at h2
   refine At.skipC ?_
   refine At.thenN ?_
   refine At.seq ?_
   refine At.openS 0 rfl ?_
   simp only [devL, List.cons_append, List.nil_append, ec0, ecS]
   refine At.region ?_
   refine tM rfl rfl ?_
   refine tM rfl rfl ?_
   refine tM rfl rfl ?_
   refine At.val (Val.nilCheck rfl) rfl rfl rfl ?_
   refine At.val (Val.field 3 rfl fo_92_3 rfl) rfl rfl rfl ?_
   refine At.store (i := 0) Tryd.sizeOf4 rfl rfl rfl rfl (by first | decide | simp) ?_
   simp only [sc0, scS]
   refine At.val (Val.nilCheck rfl) rfl rfl rfl ?_
   refine At.val (Val.field 4 rfl fo_92_4 rfl) rfl rfl rfl ?_
   refine At.store (i := 0) Tryd.sizeOf3 rfl rfl rfl rfl (by first | decide | simp) ?_
   simp only [sc0, scS]
   refine tE ?_
   refine tR ?_
   refine tA rfl rfl ?_
   refine tE ?_
   refine At.retC ?_
   refine At.ret1 (.inl rfl) rfl rfl rfl (fun w hw => ?_)
   exact ⟨γ, rfl, toDev (F := []) (armD_good hgd hm) (hw.drop (show List.Sublist [_, _, _, _] _ from (List.Sublist.refl _ |>.cons _ |>.cons_cons _ |>.cons_cons _ |>.cons_cons _ |>.cons_cons _))) rfl rfl rfl rfl⟩
end Go.Proofs.YtpihenmdkoojdaaDoor
set_option linter.unusedVariables false
set_option linter.unusedSimpArgs false
namespace Go.Proofs.YtpihenmdkoojdaaDoor
open Go Go.Wk
def pushW (w : Wd) (x : BitVec 64) : Wd := { w with news := w.news ++ [x] }
def markW (w : Wd) : Wd := { w with mark := w.news.length }
def setD (σ : Ds) (k : Nat) (w : Wd) : Ds := { σ with ws := σ.ws.set k w }
theorem mem_set_or {ws : List Wd} {k : Nat} {a w : Wd} (h : w ∈ ws.set k a) : w = a ∨ w ∈ ws := by
  rcases List.mem_or_eq_of_mem_set h with h | h
  · exact .inr h
  · exact .inl h
theorem push_good {σ : Ds} {k : Nat} {wd : Wd} {x : BitVec 64} (hg : Dgood σ) (hk : σ.ws[k]? = some wd) (hs : σ.steps + 1 ≤ 10000000000000) : Dgood (setD (stepD σ) k (pushW wd x)) := by
  have h1 := dgood_step hg hs
  have hw := hg.word wd (List.mem_of_getElem? hk)
  refine ⟨by simpa [setD] using h1.pos, by simpa [setD] using h1.len, by simpa [setD] using h1.lines, h1.steps, h1.left, fun w hm => ?_⟩
  rcases mem_set_or hm with rfl | h2
  · simp only [pushW, setD, stepD, List.length_append, List.length_singleton]; omega
  · exact h1.word w h2
theorem mark_good {σ : Ds} {k : Nat} {wd : Wd} (hg : Dgood σ) (hk : σ.ws[k]? = some wd) : Dgood (setD σ k (markW wd)) := by
  have hw := hg.word wd (List.mem_of_getElem? hk)
  refine ⟨by simpa [setD] using hg.pos, by simpa [setD] using hg.len, by simpa [setD] using hg.lines, hg.steps, hg.left, fun w hm => ?_⟩
  rcases mem_set_or hm with rfl | h2
  · exact ⟨Nat.le_refl _, hw.2⟩
  · exact hg.word w h2
/-- The first j words from f on are marked. -/
def flushK (σ : Ds) (f : Nat) : Nat → Ds
  | 0 => σ
  | j + 1 => match (flushK σ f j).ws[f + j]? with | some w => setD (flushK σ f j) (f + j) (markW w) | none => flushK σ f j
theorem flushK_rest (σ : Ds) (f : Nat) : ∀ j, (flushK σ f j).steps = σ.steps ∧ (flushK σ f j).armed = σ.armed ∧ (flushK σ f j).left = σ.left ∧ (flushK σ f j).ws.length = σ.ws.length ∧ olds (flushK σ f j).ws = olds σ.ws
  | 0 => ⟨rfl, rfl, rfl, rfl, rfl⟩
  | j + 1 => by
    obtain ⟨h1, h2, h3, h4, h5⟩ := flushK_rest σ f j
    unfold flushK
    split
    · rename_i w hw
      exact ⟨h1, h2, h3, by simpa [setD] using h4, (olds_same (wd' := markW w) hw rfl).trans h5⟩
    · exact ⟨h1, h2, h3, h4, h5⟩
theorem flushK_good {σ : Ds} (f : Nat) (hg : Dgood σ) : ∀ j, Dgood (flushK σ f j)
  | 0 => hg
  | j + 1 => by
    unfold flushK
    split
    · rename_i w hw; exact mark_good (flushK_good f hg j) hw
    · exact flushK_good f hg j
theorem flushK_succ {σ : Ds} {f j : Nat} {w : Wd} (h : (flushK σ f j).ws[f + j]? = some w) : flushK σ f (j + 1) = setD (flushK σ f j) (f + j) (markW w) := by
  conv => lhs; unfold flushK
  rw [h]
theorem set_get {ws : List Wd} {k : Nat} {w : Wd} (h : ws[k]? = some w) : ws.set k w = ws := set_same h
theorem flushK_nil {σ : Ds} {f j : Nat} {w : Wd} (hg : Dgood σ) (h : (flushK σ f j).ws[f + j]? = some w) (hn : w.news = []) : flushK σ f (j + 1) = flushK σ f j := by
  rw [flushK_succ h]
  have hw := ((flushK_good f hg j).word w (List.mem_of_getElem? h)).1
  have : markW w = w := by cases w; simp only [markW] at *; subst hn; simp at hw ⊢; omega
  unfold setD
  rw [this, set_get h]
theorem store_d (p : Nat) (γ : Gh) (σ : Ds) (k : Nat) (wd : Wd) (x : BitVec 64) (w : World) (hk : σ.ws[k]? = some wd) (hs : σ.steps + 1 ≤ 10000000000000) (hno : deadB σ = false) (hd : (Dev p γ σ).holds w) :
    DevU Tryd.prog 27 [.pointer (some ⟨p, 0, none⟩), .int .i64 (8 * (k : Int)), b64 x] p γ σ (.int .i64 0) (setD (stepD σ) k (pushW wd x)) w := by
 refine enterVc hd Tryd.func27 rfl Tryd.ntmps27 rfl ?_
 have hgd := Dev.good hd
 have hkl := (List.getElem?_eq_some_iff.1 hk).1
 have hk1 : (stepD σ).ws[k]? = some wd := hk
 have hkl1 : k < (stepD σ).ws.length := hkl
 have hwd := hgd.word wd (List.mem_of_getElem? hk)
 have hpn : (pushW wd x).news ≠ [] := by simp [pushW]
 simp only [envOf]
 refine tR ?_
 refine tA rfl rfl ?_
 refine tE ?_
 refine At.seq ?_
 refine tR ?_
 refine tM rfl rfl ?_
 refine tM rfl rfl ?_
 refine At.callK 0 rfl (fun w hw hr => (place_at (σ := σ) hkl) ▸ place_k _ _ _ _ w hr) Tryd.call48 rfl rfl ?_
 refine tA rfl rfl ?_
 refine tE ?_
 refine tR ?_
 refine tM rfl rfl ?_
 refine At.val (Val.bin rfl rfl rfl) rfl rfl rfl ?_
 refine tE ?_
 refine At.condF rfl ?_
 refine At.skipC ?_
 refine At.thenN ?_
 refine At.seq ?_
 refine tR ?_
 refine tM rfl rfl ?_
 refine At.callD 0 rfl (fun w hw hr => step_d _ _ _ w hs hno hr) Tryd.call49 rfl rfl (fun y1 => ?_)
 simp only [sc0, scS]
 refine tA rfl rfl ?_
 refine tE ?_
 refine tR ?_
 refine tM rfl rfl ?_
 refine At.val (Val.bin rfl rfl rfl) rfl rfl rfl ?_
 refine tE ?_
 refine At.condF rfl ?_
 refine At.skipC ?_
 refine At.thenN ?_
 refine At.seq ?_
 refine At.openS 0 rfl ?_
 simp only [devL, List.cons_append, List.nil_append, ec0, ecS]
 refine At.region ?_
 refine tM rfl rfl ?_
 refine At.val (Val.nilCheck rfl) rfl rfl rfl ?_
 refine At.val (Val.field 1 rfl fo_92_1 rfl) rfl rfl rfl ?_
 refine At.val (Val.load (i := 0) Tryd.isAgg90 rfl rfl rfl) rfl rfl rfl ?_
 refine tM rfl rfl ?_
 refine At.val (Val.look (i := 2) Tryd.underlying90 Tryd.underlying3 Tryd.zeroValue82 rfl rfl rfl) rfl rfl rfl ?_
 by_cases hn : wd.news = []
 ·skip
  rw [mk_at, mkN_none hk1 hn]
  refine tA rfl rfl ?_
  refine tE ?_
  refine At.seq ?_
  refine tR ?_
  refine tM rfl rfl ?_
  refine At.val (Val.eqNil (t := 82) (by kernel_rfl) rfl) rfl rfl rfl ?_
  refine tE ?_
  refine At.condT rfl ?_
  refine tR ?_
  refine At.val (Val.build (fun a ha => by simp only [List.map_toArray, List.map_cons, List.map_nil] <;> rfl) (bld_85_)) rfl rfl rfl ?_
  refine At.box rfl rfl rfl (fun b2 => ?_)
  refine tA rfl rfl ?_
  refine tE ?_
  refine At.region ?_
  refine tM rfl rfl ?_
  refine At.val (Val.nilCheck rfl) rfl rfl rfl ?_
  refine At.val (Val.field 1 rfl fo_92_1 rfl) rfl rfl rfl ?_
  refine At.val (Val.load (i := 1) Tryd.isAgg90 rfl rfl rfl) rfl rfl rfl ?_
  refine tM rfl rfl ?_
  refine tM rfl rfl ?_
  refine At.mapSet (i := 3) Tryd.underlying90 Tryd.underlying3 rfl rfl rfl rfl (by rw [mk_at, mkN_none hk1 hn]) ?_
  simp only [sc0, scS]
  refine tE ?_
  refine At.seq ?_
  refine At.winNil tW ?_
  have hwl : ([] : List Value).length = 0 := rfl
  refine At.region ?_
  refine tM rfl rfl ?_
  refine tM rfl rfl ?_
  refine At.val (Val.nilCheck rfl) rfl rfl rfl ?_
  refine At.val (Val.field 0 rfl fo_85_0 rfl) rfl rfl rfl ?_
  refine At.val (Val.load (i := 1) Tryd.isAgg83 rfl rfl rfl) rfl rfl rfl ?_
  refine tM rfl rfl ?_
  refine At.buildSl (fun a ha => by simp only [List.map_toArray, List.map_cons, List.map_nil, ha.eval (x := (.tmp 42)) rfl]; try rfl) (bs_83_1 _ ) rfl (fun b3 => ?_)
  refine At.appendWin1 (i := 1) (j := 0) (by_ := 8) Tryd.underlying83 info_65 rfl rfl rfl rfl rfl rfl rfl rfl rfl (by rw [hwl]; omega) (by rw [hwl]; omega) rfl (fun v4 => ?_)
  simp only [sc0, scS]
  refine At.drop 0 ?_
  simp only [ec0, ecS]
  refine At.val (Val.nilCheck rfl) rfl rfl rfl ?_
  refine At.val (Val.field 0 rfl fo_85_0 rfl) rfl rfl rfl ?_
  refine At.winOne 0 rfl (fun ho => ?_)
  refine At.store (i := 1) Tryd.sizeOf83 rfl rfl ho rfl (by simp) ?_
  simp only [sc0, scS]
  refine At.nil ?_
  refine At.bring 5 rfl ?_
  simp only [ec0, ecS]
  refine At.bring 1 rfl ?_
  simp only [ec0, ecS]
  refine At.bring 2 rfl ?_
  simp only [ec0, ecS]
  rw [show ([] : List Value) ++ [b64 x] = (pushW wd x).news.map b64 from by simp [pushW, hn]]
  refine At.bornD0 (wd := pushW wd x) (by have := hwd.1; rw [hn] at this; simpa [pushW] using this) hk1 hn hpn ?_
  refine At.rot3 ?_
  refine At.thenN ?_
  refine tR ?_
  refine tA rfl rfl ?_
  refine tE ?_
  refine At.retC ?_
  refine At.ret1 (.inl rfl) rfl rfl rfl (fun w hw => ?_)
  exact ⟨⟨y1.vo, y1.mb, upd y1.g k (b2, v4)⟩, rfl, toDev (F := []) (push_good hgd hk hs) (hw.drop (show List.Sublist [_, _, _, _] _ from (List.Sublist.refl _ |>.cons _ |>.cons_cons _ |>.cons_cons _ |>.cons_cons _ |>.cons_cons _))) rfl (congrArg (wrow tW y1.vo) (olds_same (ws := (stepD σ).ws) (wd' := pushW wd x) hk1 rfl).symm) (congrArg (mapR y1.mb) (mk_push hkl1 hpn).symm) rfl⟩
 ·skip
  rw [mk_at, mkN_some hk1 hn]
  refine tA rfl rfl ?_
  refine tE ?_
  refine At.seq ?_
  refine At.seq ?_
  refine At.focusD 3 rfl hk1 hn ?_
  simp only [ec0, ecS]
  refine At.region ?_
  refine tM rfl rfl ?_
  refine At.val (Val.eqNil (t := 82) (by kernel_rfl) rfl) rfl rfl rfl ?_
  refine tE ?_
  refine At.condF rfl ?_
  refine At.skipC ?_
  refine At.thenN ?_
  refine At.seq ?_
  have hwl : (wd.news.map b64).length = wd.news.length := List.length_map ..
  refine At.region ?_
  refine tM rfl rfl ?_
  refine tM rfl rfl ?_
  refine At.val (Val.nilCheck rfl) rfl rfl rfl ?_
  refine At.val (Val.field 0 rfl fo_85_0 rfl) rfl rfl rfl ?_
  refine At.val (Val.load (i := 0) Tryd.isAgg83 rfl rfl rfl) rfl rfl rfl ?_
  refine tM rfl rfl ?_
  refine At.buildSl (fun a ha => by simp only [List.map_toArray, List.map_cons, List.map_nil, ha.eval (x := (.tmp 42)) rfl]; try rfl) (bs_83_1 _ ) rfl (fun b5 => ?_)
  refine At.appendWin1 (i := 2) (j := 0) (by_ := 8) Tryd.underlying83 info_65 rfl rfl rfl rfl rfl rfl rfl rfl rfl (by rw [hwl]; omega) (by rw [hwl]; omega) rfl (fun v6 => ?_)
  simp only [sc0, scS]
  refine At.drop 0 ?_
  simp only [ec0, ecS]
  refine At.val (Val.nilCheck rfl) rfl rfl rfl ?_
  refine At.val (Val.field 0 rfl fo_85_0 rfl) rfl rfl rfl ?_
  refine At.winOne 1 rfl (fun ho => ?_)
  refine At.store (i := 0) Tryd.sizeOf83 rfl rfl ho rfl (by simp) ?_
  simp only [sc0, scS]
  refine At.nil ?_
  refine At.bring 2 rfl ?_
  simp only [ec0, ecS]
  refine At.bring 2 rfl ?_
  simp only [ec0, ecS]
  refine At.bring 2 rfl ?_
  simp only [ec0, ecS]
  rw [show wd.news.map b64 ++ [b64 x] = (pushW wd x).news.map b64 from by simp [pushW]]
  refine At.unfocusD (wd := pushW wd x) hkl1 hpn ?_
  refine At.rot3 ?_
  refine At.thenN ?_
  refine tR ?_
  refine tA rfl rfl ?_
  refine tE ?_
  refine At.retC ?_
  refine At.ret1 (.inl rfl) rfl rfl rfl (fun w hw => ?_)
  exact ⟨⟨y1.vo, y1.mb, upd y1.g k ((y1.g k).1, v6)⟩, rfl, toDev (F := []) (push_good hgd hk hs) (hw.drop (show List.Sublist [_, _, _, _] _ from (List.Sublist.refl _ |>.cons _ |>.cons_cons _ |>.cons_cons _ |>.cons_cons _ |>.cons_cons _))) rfl (congrArg (wrow tW y1.vo) (olds_same (ws := (stepD σ).ws) (wd' := pushW wd x) hk1 rfl).symm) (congrArg (mapR y1.mb) (mk_keep hk1 hn hpn).symm) rfl⟩
theorem store_no (p : Nat) (γ : Gh) (σ : Ds) (a : Int) (x : BitVec 64) (w : World) (ha : placeE σ a ≠ 0) (hd : (Dev p γ σ).holds w) :
    Upd Tryd.prog 27 [.pointer (some ⟨p, 0, none⟩), .int .i64 a, b64 x] (Dev p γ σ) (.int .i64 (placeE σ a)) (Dev p γ σ) w := by
 refine enterVc hd Tryd.func27 rfl Tryd.ntmps27 rfl ?_
 have hgd := Dev.good hd
 simp only [envOf]
 refine tR ?_
 refine tA rfl rfl ?_
 refine tE ?_
 refine At.seq ?_
 refine tR ?_
 refine tM rfl rfl ?_
 refine tM rfl rfl ?_
 refine At.callK 0 rfl (fun w hw hr => place_k _ _ _ _ w hr) Tryd.call48 rfl rfl ?_
 refine tA rfl rfl ?_
 refine tE ?_
 refine tR ?_
 refine tM rfl rfl ?_
 refine At.val (Val.bin rfl rfl rfl) rfl rfl rfl ?_
 refine tE ?_
 refine At.cond rfl (fun h1 => ?_) (fun h1 => ?_)
 ·skip
  try simp only [hasB, isSizeB, Bool.not_eq_true', Bool.not_eq_false', bne_iff_ne, ne_eq, bne_eq_false_iff_eq, beq_iff_eq, beq_eq_false_iff_ne, decide_eq_true_eq, decide_eq_false_iff_not, gt_iff_lt, ge_iff_le] at h1
  refine tR ?_
  refine tM rfl rfl ?_
  refine tA rfl rfl ?_
  refine tE ?_
  refine At.retC ?_
  refine At.thenR ?_
  refine At.ret1 (.inl rfl) rfl rfl rfl (fun w hw => ?_)
  exact ⟨rfl, hw⟩
 ·skip
  try simp only [hasB, isSizeB, Bool.not_eq_true', Bool.not_eq_false', bne_iff_ne, ne_eq, bne_eq_false_iff_eq, beq_iff_eq, beq_eq_false_iff_ne, decide_eq_true_eq, decide_eq_false_iff_not, gt_iff_lt, ge_iff_le] at h1
  omega
theorem store_0 (p : Nat) (γ : Gh) (σ : Ds) (a : Int) (x : BitVec 64) (w : World) (ha : placeE σ a = 0) (hno : deadB σ = true) (hd : (Dev p γ σ).holds w) :
    Upd Tryd.prog 27 [.pointer (some ⟨p, 0, none⟩), .int .i64 a, b64 x] (Dev p γ σ) (.int .i64 13) (Dev p γ σ) w := by
 refine enterVc hd Tryd.func27 rfl Tryd.ntmps27 rfl ?_
 have hgd := Dev.good hd
 simp only [envOf]
 refine tR ?_
 refine tA rfl rfl ?_
 refine tE ?_
 refine At.seq ?_
 refine tR ?_
 refine tM rfl rfl ?_
 refine tM rfl rfl ?_
 refine At.callK 0 rfl (fun w hw hr => place_k _ _ _ _ w hr) Tryd.call48 rfl rfl ?_
 refine tA rfl rfl ?_
 refine tE ?_
 refine tR ?_
 refine tM rfl rfl ?_
 refine At.val (Val.bin rfl rfl rfl) rfl rfl rfl ?_
 refine tE ?_
 refine At.cond rfl (fun h1 => ?_) (fun h1 => ?_)
 ·skip
  try simp only [hasB, isSizeB, Bool.not_eq_true', Bool.not_eq_false', bne_iff_ne, ne_eq, bne_eq_false_iff_eq, beq_iff_eq, beq_eq_false_iff_ne, decide_eq_true_eq, decide_eq_false_iff_not, gt_iff_lt, ge_iff_le] at h1
  omega
 ·skip
  try simp only [hasB, isSizeB, Bool.not_eq_true', Bool.not_eq_false', bne_iff_ne, ne_eq, bne_eq_false_iff_eq, beq_iff_eq, beq_eq_false_iff_ne, decide_eq_true_eq, decide_eq_false_iff_not, gt_iff_lt, ge_iff_le] at h1
  refine At.skipC ?_
  refine At.thenN ?_
  refine At.seq ?_
  refine tR ?_
  refine tM rfl rfl ?_
  refine At.callK 0 rfl (fun w hw hr => step_0 _ _ _ w hno hr) Tryd.call49 rfl rfl ?_
  refine tA rfl rfl ?_
  refine tE ?_
  refine tR ?_
  refine tM rfl rfl ?_
  refine At.val (Val.bin rfl rfl rfl) rfl rfl rfl ?_
  refine tE ?_
  refine At.condT rfl ?_
  refine tR ?_
  refine tM rfl rfl ?_
  refine tA rfl rfl ?_
  refine tE ?_
  refine At.retC ?_
  refine At.thenR ?_
  refine At.ret1 (.inl rfl) rfl rfl rfl (fun w hw => ?_)
  exact ⟨rfl, hw⟩
end Go.Proofs.YtpihenmdkoojdaaDoor
set_option linter.unusedVariables false
set_option linter.unusedSimpArgs false
namespace Go.Proofs.YtpihenmdkoojdaaDoor
open Go Go.Wk
def fenceW (w : Wd) : Wd := if w.mark = 0 then w else ⟨(w.news[w.mark - 1]?).getD w.old, w.news.drop w.mark, 0⟩
def fenceD (σ : Ds) : Ds := { σ with ws := σ.ws.map fenceW }
theorem fenceW_calm {w : Wd} (h : w.mark = 0) : fenceW w = w := if_pos h
theorem fence_good {σ : Ds} (hg : Dgood σ) : Dgood (fenceD σ) :=
  ⟨by simpa [fenceD] using hg.pos, by simpa [fenceD] using hg.len, by simpa [fenceD] using hg.lines, hg.steps, hg.left, fun w hm => by
    obtain ⟨u, hu, rfl⟩ := List.mem_map.1 hm
    have := hg.word u hu
    unfold fenceW
    split
    · exact this
    · simp only [List.length_drop, fenceD]; omega⟩
/-- Which words a fence has settled. -/
def FInv (W ws : List Wd) (left : Int → Bool) : Prop := ws.length = W.length ∧ ∀ (k : Nat) w, W[k]? = some w → ws[k]? = some (if left (8 * (k : Int)) then w else fenceW w)
theorem finv_start {σ : Ds} (hg : Dgood σ) (g : Nat → Nat × Value) : FInv σ.ws σ.ws (fun k => (mk σ.ws g k).isSome) := ⟨rfl, fun k w hk => by
  rw [hk]
  congr 1
  show w = if (mk σ.ws g (8 * (k : Int))).isSome = true then w else fenceW w
  rw [mk_at]
  by_cases hn : w.news = []
  · rw [mkN_none hk hn]
    have := (hg.word w (List.mem_of_getElem? hk)).1
    rw [hn] at this
    exact (fenceW_calm (by simpa using this)).symm
  · rw [mkN_some hk hn]; rfl⟩
theorem finv_step {W ws : List Wd} {left left' : Int → Bool} {k : Nat} {wd : Wd} (h : FInv W ws left) (hl : left (8 * (k : Int)) = true) (hk : ws[k]? = some wd) (h1 : left' (8 * (k : Int)) = false) (h2 : ∀ q, q ≠ 8 * (k : Int) → left' q = left q) : FInv W (ws.set k (fenceW wd)) left' := ⟨by simpa using h.1, fun j w hj => by
  by_cases e : j = k
  · subst e
    have := h.2 j w hj
    rw [hl, if_pos rfl, hk] at this
    have := Option.some.inj this
    subst this
    rw [h1, if_neg (by simp), List.getElem?_set_self (List.getElem?_eq_some_iff.1 hk).1]
  · rw [List.getElem?_set_ne (Ne.symm e), h2 _ (by omega)]
    exact h.2 j w hj⟩
theorem finv_end {W ws : List Wd} {left : Int → Bool} (h : FInv W ws left) (hl : ∀ k, left k = false) : ws = W.map fenceW := by
  apply List.ext_getElem?
  intro j
  rw [List.getElem?_map]
  cases hj : W[j]? with
  | none => rw [List.getElem?_eq_none (by have := List.getElem?_eq_none_iff.1 hj; rw [h.1]; exact this)]; rfl
  | some w => rw [h.2 j w hj, hl, if_neg (by simp)]; rfl
theorem finv_word {W ws : List Wd} {left : Int → Bool} {k : Nat} {wd : Wd} (h : FInv W ws left) (hl : left (8 * (k : Int)) = true) (hk : ws[k]? = some wd) : W[k]? = some wd := by
  cases hj : W[k]? with
  | none =>
    have h1 := List.getElem?_eq_none_iff.1 hj
    have h2 := (List.getElem?_eq_some_iff.1 hk).1
    rw [h.1] at h2; omega
  | some w =>
    have := h.2 k w hj
    rw [hl, if_pos rfl, hk] at this
    exact this.symm
theorem flush_d (p : Nat) (γ : Gh) (σ : Ds) (a : Int) (f : Nat) (w : World) (h0 : 0 ≤ a) (hl : a < 8 * (σ.ws.length : Int)) (hf : 8 * (f : Int) = a - a % 64) (hs : σ.steps + 1 ≤ 10000000000000) (hno : deadB σ = false) (hd : (Dev p γ σ).holds w) :
    DevU Tryd.prog 51 [.pointer (some ⟨p, 0, none⟩), .int .i64 a] p γ σ (.int .i64 0) (flushK (stepD σ) f 8) w := by
 refine enterVc hd Tryd.func51 rfl Tryd.ntmps51 rfl ?_
 have hgd := Dev.good hd
 have hln := hgd.len
 have hll := hgd.lines
 have hg1 := dgood_step hgd hs
 have hsl : (stepD σ).ws.length = σ.ws.length := rfl
 have hf8 : f % 8 = 0 := by omega
 simp only [envOf]
 refine tR ?_
 refine tA rfl rfl ?_
 refine tE ?_
 refine At.seq ?_
 refine tR ?_
 refine tM rfl rfl ?_
 refine tM rfl rfl ?_
 refine At.callK 0 rfl (fun w hw hr => has_k _ _ _ _ _ w hr) Tryd.call50 rfl rfl ?_
 refine At.val (Val.not rfl) rfl rfl rfl ?_
 refine tE ?_
 refine At.cond rfl (fun h1 => ?_) (fun h1 => ?_)
 ·skip
  try simp only [hasB, isSizeB, Bool.not_eq_true', Bool.not_eq_false', bne_iff_ne, ne_eq, bne_eq_false_iff_eq, beq_iff_eq, beq_eq_false_iff_ne, decide_eq_true_eq, decide_eq_false_iff_not, gt_iff_lt, ge_iff_le] at h1
  omega
 ·skip
  try simp only [hasB, isSizeB, Bool.not_eq_true', Bool.not_eq_false', bne_iff_ne, ne_eq, bne_eq_false_iff_eq, beq_iff_eq, beq_eq_false_iff_ne, decide_eq_true_eq, decide_eq_false_iff_not, gt_iff_lt, ge_iff_le] at h1
  refine At.skipC ?_
  refine At.thenN ?_
  refine At.seq ?_
  refine tR ?_
  refine tM rfl rfl ?_
  refine At.callD 0 rfl (fun w hw hr => step_d _ _ _ w hs hno hr) Tryd.call49 rfl rfl (fun y2 => ?_)
  simp only [sc0, scS]
  refine tA rfl rfl ?_
  refine tE ?_
  refine tR ?_
  refine tM rfl rfl ?_
  refine At.val (Val.bin rfl rfl rfl) rfl rfl rfl ?_
  refine tE ?_
  refine At.condF rfl ?_
  refine At.skipC ?_
  refine At.thenN ?_
  refine tR ?_
  refine tM rfl rfl ?_
  refine tM rfl rfl ?_
  refine At.val (Val.remI rfl rfl (by omega) (by decide)) rfl rfl rfl ?_
  refine At.val (Val.subI rfl rfl (by omega) (by omega)) rfl rfl rfl ?_
  rw [← hf]
  refine tA rfl rfl ?_
  refine tE ?_
  refine At.seq ?_
  refine At.seq ?_
  refine At.openS 0 rfl ?_
  simp only [devL, List.cons_append, List.nil_append, ec0, ecS]
  refine At.region ?_
  refine tM rfl rfl ?_
  refine tA rfl rfl ?_
  refine tE ?_
  refine At.block ?_
  skip
  refine At.loop (σ := Nat) (fun j => j ≤ 8) (fun j => [(0, .pointer (some ⟨p, 0, none⟩)), (6, .int .i64 (8 * (f : Int))), (7, .int .i64 (8 * ((f + j : Nat) : Int)))]) (fun j => [blk p tDv [y2.vo, .map (some y2.mb), .int .i64 ((stepD σ).steps : Int), .bool (stepD σ).armed, .int .i64 ((stepD σ).left : Int)], wrow tW y2.vo (olds (stepD σ).ws), mapR y2.mb (mk (flushK (stepD σ) f j).ws y2.g), fam (dI (flushK (stepD σ) f j).ws y2.g), factR (Dgood (stepD σ))]) (fun j => 8 - j) 0 (Nat.zero_le _) (Sub.cons rfl (Sub.cons rfl (Sub.cons rfl Sub.nil))) (List.Perm.refl _) ?_
  intro j hs
  have hfr := flushK_rest (stepD σ) f j
  refine At.seq ?_
  refine tR ?_
  refine tM rfl rfl ?_
  refine tM rfl rfl ?_
  first | refine At.val (Val.addI rfl rfl (by omega) (by omega)) rfl rfl rfl ?_ | refine At.val (Val.bin rfl rfl rfl) rfl rfl rfl ?_
  refine At.val (Val.bin rfl rfl rfl) rfl rfl rfl ?_
  refine tE ?_
  refine At.cond rfl (fun h3 => ?_) (fun h3 => ?_)
  ·skip
   try simp only [hasB, isSizeB, Bool.not_eq_true', Bool.not_eq_false', bne_iff_ne, ne_eq, bne_eq_false_iff_eq, beq_iff_eq, beq_eq_false_iff_ne, decide_eq_true_eq, decide_eq_false_iff_not, gt_iff_lt, ge_iff_le] at h3
   have hj : j < 8 := by omega
   have hfj : f + j < (stepD σ).ws.length := by omega
   refine At.skipC ?_
   refine At.thenN ?_
   refine At.seq ?_
   refine At.block ?_
   refine tR ?_
   refine tM rfl rfl ?_
   refine At.val (Val.nilCheck rfl) rfl rfl rfl ?_
   refine At.val (Val.field 1 rfl fo_92_1 rfl) rfl rfl rfl ?_
   refine At.val (Val.load (i := 0) Tryd.isAgg90 rfl rfl rfl) rfl rfl rfl ?_
   refine tM rfl rfl ?_
   refine At.val (Val.look (i := 2) Tryd.underlying90 Tryd.underlying3 Tryd.zeroValue82 rfl rfl rfl) rfl rfl rfl ?_
   obtain ⟨wd, hkw⟩ : ∃ wd, (flushK (stepD σ) f j).ws[f + j]? = some wd := ⟨_, List.getElem?_eq_getElem (by rw [hfr.2.2.2.1]; exact hfj)⟩
   by_cases hn : wd.news = []
   ·skip
    rw [mk_at, mkN_none hkw hn]
    refine tA rfl rfl ?_
    refine tE ?_
    refine tR ?_
    refine tM rfl rfl ?_
    refine At.val (Val.neNil (t := 82) (by kernel_rfl) rfl) rfl rfl rfl ?_
    refine tE ?_
    refine At.condF rfl ?_
    refine At.skipC ?_
    refine At.blkN ?_
    refine At.thenN ?_
    refine At.region ?_
    refine tM rfl rfl ?_
    first | refine At.val (Val.addI rfl rfl (by omega) (by omega)) rfl rfl rfl ?_ | refine At.val (Val.bin rfl rfl rfl) rfl rfl rfl ?_
    refine tA rfl rfl ?_
    refine tE ?_
    exact At.again (j + 1) (show j + 1 ≤ 8 by omega) (by omega) (Sub.cons rfl (Sub.cons rfl (Sub.cons (congrArg (fun z => some (Value.int IntKind.i64 z)) (by omega)) Sub.nil))) (by rw [flushK_nil hg1 hkw hn])
   ·skip
    rw [mk_at, mkN_some hkw hn]
    refine tA rfl rfl ?_
    refine tE ?_
    refine tR ?_
    refine tM rfl rfl ?_
    refine At.val (Val.neNil (t := 82) (by kernel_rfl) rfl) rfl rfl rfl ?_
    refine tE ?_
    refine At.condT rfl ?_
    refine At.focusD 3 rfl hkw hn ?_
    simp only [ec0, ecS]
    refine At.region ?_
    refine tM rfl rfl ?_
    refine tM rfl rfl ?_
    refine At.val (Val.nilCheck rfl) rfl rfl rfl ?_
    refine At.val (Val.field 0 rfl fo_85_0 rfl) rfl rfl rfl ?_
    refine At.val (Val.load (i := 0) Tryd.isAgg83 rfl rfl rfl) rfl rfl rfl ?_
    refine At.val (Val.lenWin (i := 1) rfl Tryd.underlying83 rfl) rfl rfl rfl ?_
    refine At.val (Val.nilCheck rfl) rfl rfl rfl ?_
    refine At.val (Val.field 1 rfl fo_85_1 rfl) rfl rfl rfl ?_
    refine At.store (i := 0) Tryd.sizeOf3 rfl rfl rfl rfl (by first | decide | simp) ?_
    simp only [sc0, scS]
    refine At.nil ?_
    rw [List.length_map]
    refine At.unfocusD (wd := markW wd) (List.getElem?_eq_some_iff.1 hkw).1 hn ?_
    refine At.rot3 ?_
    rw [← mk_keep (v' := (y2.g (f + j)).2) (wd' := markW wd) hkw hn hn, show upd y2.g (f + j) ((y2.g (f + j)).1, (y2.g (f + j)).2) = y2.g from upd_same _ _, show (flushK (stepD σ) f j).ws.set (f + j) (markW wd) = (flushK (stepD σ) f (j + 1)).ws from by rw [flushK_succ hkw]; rfl]
    refine At.blkN ?_
    refine At.thenN ?_
    refine At.region ?_
    refine tM rfl rfl ?_
    first | refine At.val (Val.addI rfl rfl (by omega) (by omega)) rfl rfl rfl ?_ | refine At.val (Val.bin rfl rfl rfl) rfl rfl rfl ?_
    refine tA rfl rfl ?_
    refine tE ?_
    exact At.again (j + 1) (show j + 1 ≤ 8 by omega) (by omega) (Sub.cons rfl (Sub.cons rfl (Sub.cons (congrArg (fun z => some (Value.int IntKind.i64 z)) (by omega)) Sub.nil))) (List.Perm.refl _)
  ·skip
   try simp only [hasB, isSizeB, Bool.not_eq_true', Bool.not_eq_false', bne_iff_ne, ne_eq, bne_eq_false_iff_eq, beq_iff_eq, beq_eq_false_iff_ne, decide_eq_true_eq, decide_eq_false_iff_not, gt_iff_lt, ge_iff_le] at h3
   obtain rfl : j = 8 := by omega
   refine At.exitC ?_
   refine At.thenX ?_
   refine At.thenX ?_
   refine At.blkX ?_
   refine At.thenN ?_
   refine tR ?_
   refine tA rfl rfl ?_
   refine tE ?_
   refine At.retC ?_
   refine At.ret1 (.inl rfl) rfl rfl rfl (fun w hw => ?_)
   obtain ⟨e1, e2, e3, _, e5⟩ := flushK_rest (stepD σ) f 8
   exact ⟨⟨y2.vo, y2.mb, y2.g⟩, rfl, toDev (F := []) (flushK_good f hg1 8) (hw.drop (show List.Sublist [_, _, _, _] _ from (List.Sublist.refl _ |>.cons _ |>.cons_cons _ |>.cons_cons _ |>.cons_cons _ |>.cons_cons _))) (by rw [e1, e2, e3]) (by rw [e5]) rfl rfl⟩
theorem flush_0 (p : Nat) (γ : Gh) (σ : Ds) (a : Int) (w : World) (h0 : 0 ≤ a) (hl : a < 8 * (σ.ws.length : Int)) (hno : deadB σ = true) (hd : (Dev p γ σ).holds w) :
    Upd Tryd.prog 51 [.pointer (some ⟨p, 0, none⟩), .int .i64 a] (Dev p γ σ) (.int .i64 13) (Dev p γ σ) w := by
 refine enterVc hd Tryd.func51 rfl Tryd.ntmps51 rfl ?_
 have hgd := Dev.good hd
 simp only [envOf]
 refine tR ?_
 refine tA rfl rfl ?_
 refine tE ?_
 refine At.seq ?_
 refine tR ?_
 refine tM rfl rfl ?_
 refine tM rfl rfl ?_
 refine At.callK 0 rfl (fun w hw hr => has_k _ _ _ _ _ w hr) Tryd.call50 rfl rfl ?_
 refine At.val (Val.not rfl) rfl rfl rfl ?_
 refine tE ?_
 refine At.cond rfl (fun h1 => ?_) (fun h1 => ?_)
 ·skip
  try simp only [hasB, isSizeB, Bool.not_eq_true', Bool.not_eq_false', bne_iff_ne, ne_eq, bne_eq_false_iff_eq, beq_iff_eq, beq_eq_false_iff_ne, decide_eq_true_eq, decide_eq_false_iff_not, gt_iff_lt, ge_iff_le] at h1
  omega
 ·skip
  try simp only [hasB, isSizeB, Bool.not_eq_true', Bool.not_eq_false', bne_iff_ne, ne_eq, bne_eq_false_iff_eq, beq_iff_eq, beq_eq_false_iff_ne, decide_eq_true_eq, decide_eq_false_iff_not, gt_iff_lt, ge_iff_le] at h1
  refine At.skipC ?_
  refine At.thenN ?_
  refine At.seq ?_
  refine tR ?_
  refine tM rfl rfl ?_
  refine At.callK 0 rfl (fun w hw hr => step_0 _ _ _ w hno hr) Tryd.call49 rfl rfl ?_
  refine tA rfl rfl ?_
  refine tE ?_
  refine tR ?_
  refine tM rfl rfl ?_
  refine At.val (Val.bin rfl rfl rfl) rfl rfl rfl ?_
  refine tE ?_
  refine At.condT rfl ?_
  refine tR ?_
  refine tM rfl rfl ?_
  refine tA rfl rfl ?_
  refine tE ?_
  refine At.retC ?_
  refine At.thenR ?_
  refine At.ret1 (.inl rfl) rfl rfl rfl (fun w hw => ?_)
  exact ⟨rfl, hw⟩
end Go.Proofs.YtpihenmdkoojdaaDoor
set_option linter.unusedVariables false
set_option linter.unusedSimpArgs false
namespace Go.Proofs.YtpihenmdkoojdaaDoor
open Go Go.Wk
theorem fence_d (p : Nat) (γ : Gh) (σ : Ds) (w : World) (hs : σ.steps + 1 ≤ 10000000000000) (hno : deadB σ = false) (hd : (Dev p γ σ).holds w) :
    DevU Tryd.prog 29 [.pointer (some ⟨p, 0, none⟩)] p γ σ (.int .i64 0) (fenceD (stepD σ)) w := by
 refine enterVc hd Tryd.func29 rfl Tryd.ntmps29 rfl ?_
 have hgd := Dev.good hd
 have hln := hgd.len
 have hg1 := dgood_step hgd hs
 have hstp := hg1.steps
 simp only [envOf]
 refine tR ?_
 refine tA rfl rfl ?_
 refine tE ?_
 refine At.seq ?_
 refine tR ?_
 refine tM rfl rfl ?_
 refine At.callD 0 rfl (fun w hw hr => step_d _ _ _ w hs hno hr) Tryd.call49 rfl rfl (fun y1 => ?_)
 simp only [sc0, scS]
 refine tA rfl rfl ?_
 refine tE ?_
 refine tR ?_
 refine tM rfl rfl ?_
 refine At.val (Val.bin rfl rfl rfl) rfl rfl rfl ?_
 refine tE ?_
 refine At.condF rfl ?_
 refine At.skipC ?_
 refine At.thenN ?_
 refine At.seq ?_
 refine At.seq ?_
 refine At.openS 0 rfl ?_
 simp only [devL, List.cons_append, List.nil_append, ec0, ecS]
 refine At.region ?_
 refine tM rfl rfl ?_
 refine At.val (Val.nilCheck rfl) rfl rfl rfl ?_
 refine At.val (Val.field 1 rfl fo_92_1 rfl) rfl rfl rfl ?_
 refine At.val (Val.load (i := 0) Tryd.isAgg90 rfl rfl rfl) rfl rfl rfl ?_
 refine At.range (i := 2) Tryd.underlying90 rfl rfl rfl (fun r2 cnt3 => ?_)
 simp only [sc0, scS]
 refine tE ?_
 refine At.block ?_
 skip
 refine At.loop (σ := (List Wd × (Nat → Nat × Value)) × (Int → Bool) × Option (Int × Value) × Nat) (fun s => FInv (stepD σ).ws s.1.1 s.2.1) (fun s => [(0, .pointer (some ⟨p, 0, none⟩)), (15, .pointer (some ⟨r2, 0, none⟩))]) (fun s => [blk p tDv [y1.vo, .map (some y1.mb), .int .i64 ((stepD σ).steps : Int), .bool (stepD σ).armed, .int .i64 ((stepD σ).left : Int)], wrow tW y1.vo (olds s.1.1), iterR y1.mb r2 (mk s.1.1 s.1.2) s.2.1 s.2.2.1 s.2.2.2, fam (dI s.1.1 s.1.2), factR (Dgood (stepD σ))]) (fun s => s.2.2.2) (((stepD σ).ws, y1.g), (fun k => (mk (stepD σ).ws y1.g k).isSome), none, cnt3) (finv_start hg1 _) (Sub.cons rfl (Sub.cons rfl Sub.nil)) (List.Perm.refl _) ?_
 intro s hs
 obtain ⟨⟨ws, g⟩, left, cur, cnt⟩ := s
 dsimp only at hs ⊢
 refine tR ?_
 refine At.next (i := 2) rfl rfl rfl (fun hl => ?_) (fun x v cn hl hf hcn => ?_)
 skip
 ·skip
  refine At.val (Val.extract rfl rfl) rfl rfl rfl ?_
  refine tE ?_
  refine At.seq ?_
  refine At.condF rfl ?_
  refine At.exitC ?_
  refine At.thenX ?_
  refine At.thenX ?_
  refine At.blkX ?_
  refine At.thenN ?_
  refine At.seq ?_
  refine At.iterEnd 2 rfl ?_
  simp only [sc0, scS]
  refine At.region ?_
  refine tA rfl rfl ?_
  refine tE ?_
  refine At.retC ?_
  refine At.ret1 (.inl rfl) rfl rfl rfl (fun w hw => ?_)
  exact ⟨⟨y1.vo, y1.mb, g⟩, rfl, toDev (F := []) (fence_good hg1) (hw.drop (show List.Sublist [_, _, _, _] _ from (List.Sublist.refl _ |>.cons _ |>.cons_cons _ |>.cons_cons _ |>.cons_cons _ |>.cons_cons _))) rfl (by rw [finv_end hs hl]; rfl) (by rw [finv_end hs hl]; rfl) (by rw [finv_end hs hl]; rfl)⟩
 ·skip
  simp only [sc0, scS]
  obtain ⟨k, wd, rfl, hk, hn, rfl⟩ := mk_inv hf
  have hwk := finv_word hs hl hk
  have hwd := hg1.word wd (List.mem_of_getElem? hwk)
  have hkl := (List.getElem?_eq_some_iff.1 hk).1
  have hlen := hs.1
  have hsl : (stepD σ).ws.length = σ.ws.length := rfl
  refine At.val (Val.extract rfl rfl) rfl rfl rfl ?_
  refine tE ?_
  refine At.seq ?_
  refine At.condT rfl ?_
  refine At.skipC ?_
  refine At.thenN ?_
  refine At.block ?_
  refine tR ?_
  refine At.val (Val.entry (i := 2) rfl rfl) rfl rfl rfl ?_
  refine At.val (Val.extract rfl rfl) rfl rfl rfl ?_
  refine At.val (Val.extract rfl rfl) rfl rfl rfl ?_
  refine tA rfl rfl ?_
  refine tA rfl rfl ?_
  refine tE ?_
  refine At.seq ?_
  refine tR ?_
  refine tM rfl rfl ?_
  refine At.val (Val.nilCheck rfl) rfl rfl rfl ?_
  refine At.val (Val.field 1 rfl fo_85_1 rfl) rfl rfl rfl ?_
  refine At.val (Val.loadDbt (i := 3) (q := 1) Tryd.isAgg3 rfl rfl hk hn rfl) rfl rfl rfl ?_
  refine At.val (Val.bin rfl rfl rfl) rfl rfl rfl ?_
  refine tE ?_
  refine At.cond rfl (fun h4 => ?_) (fun h4 => ?_)
  ·skip
   try simp only [hasB, isSizeB, Bool.not_eq_true', Bool.not_eq_false', bne_iff_ne, ne_eq, bne_eq_false_iff_eq, beq_iff_eq, beq_eq_false_iff_ne, decide_eq_true_eq, decide_eq_false_iff_not, gt_iff_lt, ge_iff_le] at h4
   have fz : ws.set k (fenceW wd) = ws := by rw [fenceW_calm (by omega)]; exact set_get hk
   refine At.exitC ?_
   refine At.thenX ?_
   refine At.blkX ?_
   refine At.thenN ?_
   exact At.again ((ws.set k (fenceW wd), g), (fun q => left q && q != 8 * (k : Int)), some (8 * (k : Int), .pointer (some ⟨(g k).1, 0, none⟩)), cn) (finv_step hs hl hk (by simp) (fun q hq => by simp [hq])) (show cn < cnt by omega) (Sub.cons rfl (Sub.cons rfl Sub.nil)) (by rw [fz])
  ·skip
   try simp only [hasB, isSizeB, Bool.not_eq_true', Bool.not_eq_false', bne_iff_ne, ne_eq, bne_eq_false_iff_eq, beq_iff_eq, beq_eq_false_iff_ne, decide_eq_true_eq, decide_eq_false_iff_not, gt_iff_lt, ge_iff_le] at h4
   refine At.skipC ?_
   refine At.thenN ?_
   refine At.seq ?_
   have fz : fenceW wd = ⟨(wd.news[wd.mark - 1]?).getD wd.old, wd.news.drop wd.mark, 0⟩ := if_neg (by omega)
   obtain ⟨z, hz⟩ : ∃ z, wd.news[wd.mark - 1]? = some z := ⟨_, List.getElem?_eq_getElem (by omega)⟩
   rw [hz, Option.getD_some] at fz
   refine At.dbtSome 3 rfl hk hn (fun b o c hv => ?_)
   refine At.dbtCap 3 rfl hk hn hv (fun hcap => ?_)
   refine At.tail 18 rfl (by decide +kernel) ?_
   simp only [List.take_succ_cons, List.take_zero, List.drop_succ_cons, List.drop_zero]
   refine qM rfl rfl ?_
   refine QAt.val (Val.nilCheck rfl) rfl rfl rfl ?_
   refine QAt.val (Val.field 0 rfl fo_92_0 rfl) rfl rfl rfl ?_
   refine QAt.val (Val.load (i := 0) Tryd.isAgg83 rfl rfl rfl) rfl rfl rfl ?_
   refine qM rfl rfl ?_
   refine QAt.val (Val.quoI rfl rfl (by omega) (by omega) (by decide)) rfl rfl rfl ?_
   rw [show 8 * (k : Int) / 8 = (k : Int) from by omega]
   refine qM rfl rfl ?_
   refine QAt.val (Val.nilCheck rfl) rfl rfl rfl ?_
   refine QAt.val (Val.field 0 rfl fo_85_0 rfl) rfl rfl rfl ?_
   refine QAt.val (Val.loadDbt (i := 3) (q := 0) Tryd.isAgg83 rfl rfl hk hn rfl) rfl rfl rfl ?_
   refine qM rfl rfl ?_
   refine QAt.val (Val.nilCheck rfl) rfl rfl rfl ?_
   refine QAt.val (Val.field 1 rfl fo_85_1 rfl) rfl rfl rfl ?_
   refine QAt.val (Val.loadDbt (i := 3) (q := 1) Tryd.isAgg3 rfl rfl hk hn rfl) rfl rfl rfl ?_
   refine QAt.val (Val.subI rfl rfl (by omega) (by omega)) rfl rfl rfl ?_
   rw [hv]
   refine QAt.val (Val.indexSl (o + (wd.mark - 1)) (by omega) Tryd.underlying83 Tryd.sizeOf65 rfl rfl (by omega) (by omega)) rfl rfl rfl ?_
   refine QAt.val (Val.loadNews (i := 3) Tryd.isAgg65 rfl rfl hk hn hv rfl hz) rfl rfl rfl ?_
   refine QAt.val (Val.indexRow (i := 1) k (by omega) Tryd.underlying83 Tryd.sizeOf65 rfl rfl rfl (by omega) (by rw [olds_length]; omega)) rfl rfl rfl ?_
   refine QAt.fin ?_
   refine At.storeRow (i := 1) Tryd.sizeOf65 rfl rfl rfl rfl (by rw [List.length_map, olds_length]; exact hkl) ?_
   simp only [sc0, scS]
   rw [← List.map_set, show (olds ws).set k z = olds (ws.set k (fenceW wd)) from by rw [olds_set, fz], show (olds ws).length = (olds (ws.set k (fenceW wd))).length from by rw [olds_length, olds_length, List.length_set]]
   refine tE ?_
   refine At.seq ?_
   refine At.focusD 3 rfl hk hn ?_
   simp only [ec0, ecS]
   rw [hv]
   refine At.tail 12 rfl (by decide +kernel) ?_
   simp only [List.take_succ_cons, List.take_zero, List.drop_succ_cons, List.drop_zero]
   refine qM rfl rfl ?_
   refine qM rfl rfl ?_
   refine QAt.val (Val.nilCheck rfl) rfl rfl rfl ?_
   refine QAt.val (Val.field 0 rfl fo_85_0 rfl) rfl rfl rfl ?_
   refine QAt.val (Val.load (i := 0) Tryd.isAgg83 rfl rfl rfl) rfl rfl rfl ?_
   refine qM rfl rfl ?_
   refine QAt.val (Val.nilCheck rfl) rfl rfl rfl ?_
   refine QAt.val (Val.field 1 rfl fo_85_1 rfl) rfl rfl rfl ?_
   refine QAt.val (Val.load (i := 0) Tryd.isAgg3 rfl rfl rfl) rfl rfl rfl ?_
   refine QAt.val (Val.cutSl wd.mark wd.news.length _ _ _ Tryd.underlying83 Tryd.sizeOf65 rfl ⟨_, _, rfl, by omega, by omega⟩ rfl (by omega) hcap rfl rfl rfl) rfl rfl rfl ?_
   refine QAt.val (Val.nilCheck rfl) rfl rfl rfl ?_
   refine QAt.val (Val.field 0 rfl fo_85_0 rfl) rfl rfl rfl ?_
   refine QAt.fin ?_
   refine At.store (i := 0) Tryd.sizeOf83 rfl rfl rfl rfl (by simp) ?_
   simp only [sc0, scS]
   refine At.nil ?_
   refine At.winCut 1 wd.mark rfl (by rw [List.length_map]; omega) ?_
   simp only [sc0, scS]
   rw [← List.map_drop]
   refine At.thenN ?_
   refine tR ?_
   refine tM rfl rfl ?_
   refine At.val (Val.nilCheck rfl) rfl rfl rfl ?_
   refine At.val (Val.field 1 rfl fo_85_1 rfl) rfl rfl rfl ?_
   refine At.store (i := 0) Tryd.sizeOf3 rfl rfl rfl rfl (by simp) ?_
   simp only [sc0, scS]
   refine tE ?_
   refine tR ?_
   refine tM rfl rfl ?_
   refine At.val (Val.nilCheck rfl) rfl rfl rfl ?_
   refine At.val (Val.field 0 rfl fo_85_0 rfl) rfl rfl rfl ?_
   refine At.val (Val.load (i := 0) Tryd.isAgg83 rfl rfl rfl) rfl rfl rfl ?_
   refine At.val (Val.len (bt := #[]) Tryd.underlying83 rfl) rfl rfl rfl ?_
   refine At.val (Val.bin rfl rfl rfl) rfl rfl rfl ?_
   refine tE ?_
   refine At.cond rfl (fun h5 => ?_) (fun h5 => ?_)
   ·skip
    try simp only [hasB, isSizeB, Bool.not_eq_true', Bool.not_eq_false', bne_iff_ne, ne_eq, bne_eq_false_iff_eq, beq_iff_eq, beq_eq_false_iff_ne, decide_eq_true_eq, decide_eq_false_iff_not, gt_iff_lt, ge_iff_le] at h5
    refine At.region ?_
    refine tM rfl rfl ?_
    refine At.val (Val.nilCheck rfl) rfl rfl rfl ?_
    refine At.val (Val.field 1 rfl fo_92_1 rfl) rfl rfl rfl ?_
    refine At.val (Val.load (i := 3) Tryd.isAgg90 rfl rfl rfl) rfl rfl rfl ?_
    refine tM rfl rfl ?_
    refine At.delIt (i := 5) Tryd.underlying90 Tryd.underlying3 rfl rfl rfl (fun cn6 hc7 => ?_)
    simp only [sc0, scS]
    refine At.nil ?_
    have hdn : (fenceW wd).news = [] := by rw [fz]; exact List.drop_eq_nil_of_le (by omega)
    refine At.dropD (wd := fenceW wd) hkl hdn ?_
    refine At.rot3 ?_
    rw [← mk_drop (g := g) hkl hdn]
    refine At.blkN ?_
    refine At.thenN ?_
    exact At.again ((ws.set k (fenceW wd), g), (fun q => (left q && q != 8 * (k : Int)) && q != 8 * (k : Int)), none, cn6) (finv_step hs hl hk (by simp) (fun q hq => by simp [hq])) (show cn6 < cnt by omega) (Sub.cons rfl (Sub.cons rfl Sub.nil)) (List.Perm.refl _)
   ·skip
    try simp only [hasB, isSizeB, Bool.not_eq_true', Bool.not_eq_false', bne_iff_ne, ne_eq, bne_eq_false_iff_eq, beq_iff_eq, beq_eq_false_iff_ne, decide_eq_true_eq, decide_eq_false_iff_not, gt_iff_lt, ge_iff_le] at h5
    have hdn : (fenceW wd).news ≠ [] := by rw [fz]; exact fun e => by have := congrArg List.length e; simp at this; omega
    rw [show wd.news.drop wd.mark = (fenceW wd).news from by rw [fz]]
    refine At.unfocusZ (wd := fenceW wd) (by rw [fz]) hkl hdn ?_
    refine At.rot3 ?_
    rw [← mk_keep (v' := .slice (some ⟨b, if c = wd.mark then o else o + wd.mark * 1, none⟩) (wd.news.length - wd.mark) (c - wd.mark)) hk hn hdn]
    refine At.skipC ?_
    refine At.blkN ?_
    refine At.thenN ?_
    exact At.again ((ws.set k (fenceW wd), upd g k ((g k).1, (.slice (some ⟨b, if c = wd.mark then o else o + wd.mark * 1, none⟩) (wd.news.length - wd.mark) (c - wd.mark)))), (fun q => left q && q != 8 * (k : Int)), some (8 * (k : Int), .pointer (some ⟨(g k).1, 0, none⟩)), cn) (finv_step hs hl hk (by simp) (fun q hq => by simp [hq])) (show cn < cnt by omega) (Sub.cons rfl (Sub.cons rfl Sub.nil)) (List.Perm.refl _)
theorem fence_0 (p : Nat) (γ : Gh) (σ : Ds) (w : World) (hno : deadB σ = true) (hd : (Dev p γ σ).holds w) :
    Upd Tryd.prog 29 [.pointer (some ⟨p, 0, none⟩)] (Dev p γ σ) (.int .i64 13) (Dev p γ σ) w := by
 refine enterVc hd Tryd.func29 rfl Tryd.ntmps29 rfl ?_
 have hgd := Dev.good hd
 simp only [envOf]
 refine tR ?_
 refine tA rfl rfl ?_
 refine tE ?_
 refine At.seq ?_
 refine tR ?_
 refine tM rfl rfl ?_
 refine At.callK 0 rfl (fun w hw hr => step_0 _ _ _ w hno hr) Tryd.call49 rfl rfl ?_
 refine tA rfl rfl ?_
 refine tE ?_
 refine tR ?_
 refine tM rfl rfl ?_
 refine At.val (Val.bin rfl rfl rfl) rfl rfl rfl ?_
 refine tE ?_
 refine At.condT rfl ?_
 refine tR ?_
 refine tM rfl rfl ?_
 refine tA rfl rfl ?_
 refine tE ?_
 refine At.retC ?_
 refine At.thenR ?_
 refine At.ret1 (.inl rfl) rfl rfl rfl (fun w hw => ?_)
 exact ⟨rfl, hw⟩
end Go.Proofs.YtpihenmdkoojdaaDoor
set_option linter.unusedVariables false
set_option linter.unusedSimpArgs false
namespace Go.Proofs.YtpihenmdkoojdaaDoor
open Go Go.Wk
/-- The flush of a line; the lines from l on, rising, until the device dies. -/
def lineD (σ : Ds) (l : Nat) : Ds := flushK (stepD σ) (8 * l) 8
def linesE : Nat → Ds → Nat → Int × Ds
  | _, σ, 0 => (0, σ)
  | l, σ, k + 1 => if deadB σ = true then (13, σ) else linesE (l + 1) (lineD σ l) k
theorem linesE_dead {l k : Nat} {σ : Ds} (h : deadB σ = true) : linesE l σ (k + 1) = (13, σ) := by unfold linesE; rw [if_pos h]
theorem linesE_live {l k : Nat} {σ : Ds} (h : deadB σ = false) : linesE l σ (k + 1) = linesE (l + 1) (lineD σ l) k := by
  show (if deadB σ = true then (13, σ) else linesE (l + 1) (lineD σ l) k) = _
  rw [if_neg (by rw [h]; simp)]
theorem lineD_rest (σ : Ds) (l : Nat) : (lineD σ l).steps = σ.steps + 1 ∧ (lineD σ l).armed = σ.armed ∧ (lineD σ l).ws.length = σ.ws.length := by
  obtain ⟨h1, h2, _, h4, _⟩ := flushK_rest (stepD σ) (8 * l) 8
  exact ⟨h1, h2, h4⟩
/-- A store; the stores from the word k on, rising, until the device dies. -/
def storeD (σ : Ds) (k : Nat) (x : BitVec 64) : Ds := match σ.ws[k]? with | some w => setD (stepD σ) k (pushW w x) | none => σ
def storesE : Nat → Ds → List (BitVec 64) → Int × Ds
  | _, σ, [] => (0, σ)
  | k, σ, x :: l => if deadB σ = true then (13, σ) else storesE (k + 1) (storeD σ k x) l
theorem storesE_dead {k : Nat} {σ : Ds} {x : BitVec 64} {l : List (BitVec 64)} (h : deadB σ = true) : storesE k σ (x :: l) = (13, σ) := by unfold storesE; rw [if_pos h]
theorem storesE_live {k : Nat} {σ : Ds} {x : BitVec 64} {l : List (BitVec 64)} (h : deadB σ = false) : storesE k σ (x :: l) = storesE (k + 1) (storeD σ k x) l := by
  show (if deadB σ = true then (13, σ) else storesE (k + 1) (storeD σ k x) l) = _
  rw [if_neg (by rw [h]; simp)]
theorem storeD_some {σ : Ds} {k : Nat} {x : BitVec 64} {w : Wd} (h : σ.ws[k]? = some w) : storeD σ k x = setD (stepD σ) k (pushW w x) := by unfold storeD; rw [h]
theorem storeD_rest {σ : Ds} {k : Nat} (x : BitVec 64) (h : k < σ.ws.length) : (storeD σ k x).steps = σ.steps + 1 ∧ (storeD σ k x).armed = σ.armed ∧ (storeD σ k x).ws.length = σ.ws.length := by
  rw [storeD_some (List.getElem?_eq_getElem h)]
  exact ⟨rfl, rfl, by simp [setD, stepD]⟩
def cntP (a n cnt : Nat) : Prop := (n = 0 → cnt = 0) ∧ (0 < n → cnt = (a + n - 1) / 64 + 1 - a / 64)
def cntL (a n : Nat) : Nat := if n = 0 then 0 else (a + n - 1) / 64 + 1 - a / 64
theorem cntL_P (a n : Nat) : cntP a n (cntL a n) := ⟨fun h => by unfold cntL; rw [if_pos h], fun h => by unfold cntL; rw [if_neg (by omega)]⟩
theorem drop_cons {l : List (BitVec 64)} {j : Nat} {x : BitVec 64} (h : l[j]? = some x) : l.drop j = x :: l.drop (j + 1) := by
  have hj := List.getElem?_eq_some_iff.1 h
  rw [List.drop_eq_getElem_cons hj.1, hj.2]
theorem place_at' {σ : Ds} {a : Int} (h0 : 0 ≤ a) (h1 : a < 8 * (σ.ws.length : Int)) (h8 : a % 8 = 0) : placeE σ a = 0 := by
  obtain ⟨k, rfl⟩ : ∃ k : Nat, a = 8 * (k : Int) := ⟨(a / 8).toNat, by omega⟩
  exact place_at (by omega)
theorem flushAll_d (p : Nat) (γ : Gh) (σ : Ds) (a n cnt : Nat) (w : World) (han : a + n ≤ 8 * σ.ws.length) (hct : cntP a n cnt) (hst : σ.steps + cnt ≤ 10000000000000) (hd : (Dev p γ σ).holds w) :
    DevU Tryd.prog 28 [.pointer (some ⟨p, 0, none⟩), .int .i64 (a : Int), .int .i64 (n : Int)] p γ σ (.int .i64 (linesE (a / 64) σ cnt).1) (linesE (a / 64) σ cnt).2 w := by
 refine enterVc hd Tryd.func28 rfl Tryd.ntmps28 rfl ?_
 have hgd := Dev.good hd
 have hln := hgd.len
 obtain ⟨hc0, hc1⟩ := hct
 simp only [envOf]
 refine tR ?_
 refine tA rfl rfl ?_
 refine tE ?_
 refine At.seq ?_
 refine tR ?_
 refine tM rfl rfl ?_
 refine tM rfl rfl ?_
 refine tM rfl rfl ?_
 refine At.callK 0 rfl (fun w hw hr => has_k _ _ _ _ _ w hr) Tryd.call50 rfl rfl ?_
 refine At.val (Val.not rfl) rfl rfl rfl ?_
 refine tE ?_
 refine At.cond rfl (fun h1 => ?_) (fun h1 => ?_)
 ·skip
  try simp only [hasB, isSizeB, Bool.not_eq_true', Bool.not_eq_false', bne_iff_ne, ne_eq, bne_eq_false_iff_eq, beq_iff_eq, beq_eq_false_iff_ne, decide_eq_true_eq, decide_eq_false_iff_not, gt_iff_lt, ge_iff_le] at h1
  omega
 ·skip
  try simp only [hasB, isSizeB, Bool.not_eq_true', Bool.not_eq_false', bne_iff_ne, ne_eq, bne_eq_false_iff_eq, beq_iff_eq, beq_eq_false_iff_ne, decide_eq_true_eq, decide_eq_false_iff_not, gt_iff_lt, ge_iff_le] at h1
  refine At.skipC ?_
  refine At.thenN ?_
  refine At.seq ?_
  refine tR ?_
  refine tM rfl rfl ?_
  refine tM rfl rfl ?_
  first | refine At.val (Val.remI rfl rfl (by omega) (by decide)) rfl rfl rfl ?_ | refine At.val (Val.rem rfl rfl (by decide)) rfl rfl rfl ?_
  first | refine At.val (Val.subI rfl rfl (by omega) (by omega)) rfl rfl rfl ?_ | refine At.val (Val.bin rfl rfl rfl) rfl rfl rfl ?_
  refine tA rfl rfl ?_
  refine tE ?_
  refine At.block ?_
  skip
  refine At.loop (σ := (Nat × Ds) × Gh) (fun s => s.1.1 ≤ cnt ∧ linesE (a / 64) σ cnt = linesE (a / 64 + s.1.1) s.1.2 (cnt - s.1.1) ∧ s.1.2.ws.length = σ.ws.length ∧ s.1.2.steps = σ.steps + s.1.1) (fun s => [(0, .pointer (some ⟨p, 0, none⟩)), (1, .int .i64 (a : Int)), (2, .int .i64 (n : Int)), (7, .int .i64 (64 * (((a / 64 : Nat) : Int) + (s.1.1 : Int))))]) (fun s => [Dev p s.2 s.1.2]) (fun s => cnt - s.1.1) ((0, σ), γ) ⟨Nat.zero_le _, rfl, rfl, rfl⟩ (Sub.cons rfl (Sub.cons rfl (Sub.cons rfl (Sub.cons (congrArg (fun z => some (Value.int IntKind.i64 z)) (by dsimp only; omega)) Sub.nil)))) (List.Perm.refl _) ?_
  intro s hs
  obtain ⟨⟨j, σ1⟩, γ1⟩ := s
  dsimp only at hs ⊢
  obtain ⟨hj, he, hl1, hs1⟩ := hs
  refine At.seq ?_
  refine tR ?_
  refine tM rfl rfl ?_
  refine tM rfl rfl ?_
  refine tM rfl rfl ?_
  first | refine At.val (Val.addI rfl rfl (by omega) (by omega)) rfl rfl rfl ?_ | refine At.val (Val.bin rfl rfl rfl) rfl rfl rfl ?_
  refine At.val (Val.bin rfl rfl rfl) rfl rfl rfl ?_
  refine At.weaken [(0, _), (1, _), (2, _), (7, _), (22, _)] (Sub.cons rfl (Sub.cons rfl (Sub.cons rfl (Sub.cons rfl (Sub.cons rfl Sub.nil))))) ?_
  refine At.boolMeet 4 26 (decide (j < cnt)) ?_ ?_
  ·skip
   simp only [List.take_succ_cons, List.take_zero]
   refine tM rfl rfl ?_
   refine At.split (t := 23) rfl (fun h2 => ?_) (fun h2 => ?_)
   ·skip
    try simp only [hasB, isSizeB, Bool.not_eq_true', Bool.not_eq_false', bne_iff_ne, ne_eq, bne_eq_false_iff_eq, beq_iff_eq, beq_eq_false_iff_ne, decide_eq_true_eq, decide_eq_false_iff_not, gt_iff_lt, ge_iff_le] at h2
    refine At.yes rfl rfl ?_
    refine tM rfl rfl ?_
    refine At.yes rfl rfl ?_
    refine At.val (Val.bin rfl rfl rfl) rfl rfl rfl ?_
    refine At.val (Val.pickT rfl rfl) rfl rfl rfl ?_
    refine At.nil ?_
    exact At.boolEnd rfl (by apply Bool.eq_iff_iff.2; (simp only [decide_eq_true_eq, Bool.false_eq_true, false_iff, true_iff, gt_iff_lt, ge_iff_le]) <;> omega) (by repeat (first | exact Sub.nil | refine Sub.cons rfl ?_))
   ·skip
    try simp only [hasB, isSizeB, Bool.not_eq_true', Bool.not_eq_false', bne_iff_ne, ne_eq, bne_eq_false_iff_eq, beq_iff_eq, beq_eq_false_iff_ne, decide_eq_true_eq, decide_eq_false_iff_not, gt_iff_lt, ge_iff_le] at h2
    refine At.no rfl rfl rfl rfl ?_
    refine At.no rfl rfl rfl rfl ?_
    refine At.val (Val.pickF rfl rfl) rfl rfl rfl ?_
    refine At.nil ?_
    exact At.boolEnd rfl (by apply Bool.eq_iff_iff.2; (simp only [decide_eq_true_eq, Bool.false_eq_true, false_iff, true_iff, gt_iff_lt, ge_iff_le]) <;> omega) (by repeat (first | exact Sub.nil | refine Sub.cons rfl ?_))
  ·skip
   simp only [List.drop_succ_cons, List.drop_zero]
   refine tE ?_
   refine At.cond rfl (fun h3 => ?_) (fun h3 => ?_)
   ·skip
    try simp only [hasB, isSizeB, Bool.not_eq_true', Bool.not_eq_false', bne_iff_ne, ne_eq, bne_eq_false_iff_eq, beq_iff_eq, beq_eq_false_iff_ne, decide_eq_true_eq, decide_eq_false_iff_not, gt_iff_lt, ge_iff_le] at h3
    refine At.skipC ?_
    refine At.thenN ?_
    refine At.seq ?_
    refine At.block ?_
    refine tR ?_
    refine tM rfl rfl ?_
    refine tM rfl rfl ?_
    cases hdb : deadB σ1
    ·skip
     refine At.callD 0 rfl (fun w hw hr => flush_d _ _ _ (64 * ((a / 64 : Nat) + j)) (8 * (a / 64 + j)) w (by omega) (by omega) (by omega) (by omega) hdb hr) Tryd.call51 rfl rfl (fun y4 => ?_)
     simp only [sc0, scS]
     refine tA rfl rfl ?_
     refine tE ?_
     refine tR ?_
     refine tM rfl rfl ?_
     refine At.val (Val.bin rfl rfl rfl) rfl rfl rfl ?_
     refine tE ?_
     refine At.condF rfl ?_
     refine At.skipC ?_
     refine At.blkN ?_
     refine At.thenN ?_
     refine At.region ?_
     refine tM rfl rfl ?_
     first | refine At.val (Val.addI rfl rfl (by omega) (by omega)) rfl rfl rfl ?_ | refine At.val (Val.bin rfl rfl rfl) rfl rfl rfl ?_
     refine tA rfl rfl ?_
     refine tE ?_
     exact At.again ((j + 1, lineD σ1 (a / 64 + j)), y4) ⟨(show j + 1 ≤ cnt by omega), (by rw [he, show cnt - j = (cnt - (j + 1)) + 1 by omega, linesE_live hdb]; rfl), (lineD_rest σ1 _).2.2.trans hl1, (show (lineD σ1 (a / 64 + j)).steps = σ.steps + (j + 1) by have := (lineD_rest σ1 (a / 64 + j)).1; omega)⟩ (by dsimp only; omega) (Sub.cons rfl (Sub.cons rfl (Sub.cons rfl (Sub.cons (congrArg (fun z => some (Value.int IntKind.i64 z)) (by dsimp only; omega)) Sub.nil)))) (List.Perm.refl _)
    ·skip
     refine At.callK 0 rfl (fun w hw hr => flush_0 _ _ _ _ w (by omega) (by omega) hdb hr) Tryd.call51 rfl rfl ?_
     refine tA rfl rfl ?_
     refine tE ?_
     refine tR ?_
     refine tM rfl rfl ?_
     refine At.val (Val.bin rfl rfl rfl) rfl rfl rfl ?_
     refine tE ?_
     refine At.condT rfl ?_
     refine tR ?_
     refine tM rfl rfl ?_
     refine tA rfl rfl ?_
     refine tE ?_
     refine At.retC ?_
     refine At.blkR ?_
     refine At.thenR ?_
     refine At.thenR ?_
     refine At.blkR ?_
     refine At.thenR ?_
     refine At.ret1 (.inl rfl) rfl rfl rfl (fun w hw => ?_)
     rw [he, show cnt - j = (cnt - j - 1) + 1 by omega, linesE_dead hdb]
     exact ⟨_, rfl, hw⟩
   ·skip
    try simp only [hasB, isSizeB, Bool.not_eq_true', Bool.not_eq_false', bne_iff_ne, ne_eq, bne_eq_false_iff_eq, beq_iff_eq, beq_eq_false_iff_ne, decide_eq_true_eq, decide_eq_false_iff_not, gt_iff_lt, ge_iff_le] at h3
    refine At.exitC ?_
    refine At.thenX ?_
    refine At.thenX ?_
    refine At.blkX ?_
    refine At.thenN ?_
    refine tR ?_
    refine tA rfl rfl ?_
    refine tE ?_
    refine At.retC ?_
    refine At.ret1 (.inl rfl) rfl rfl rfl (fun w hw => ?_)
    rw [he, show cnt - j = 0 by omega]
    exact ⟨_, rfl, hw⟩
end Go.Proofs.YtpihenmdkoojdaaDoor
namespace Go.Proofs.YtpihenmdkoojdaaDoor
open Go Go.Shelf Go.Sort Go.RowKit Go.Proofs
def sort_ren : Go.Shelf.Ren := ⟨fun | 125 => 78 | 128 => 88 | 129 => 89 | 189 => 63 | 215 => 95 | 216 => 85 | 257 => 77 | 294 => 79 | 295 => 80 | 296 => 81 | 297 => 82 | 298 => 83 | 299 => 84 | 300 => 86 | 301 => 87 | 328 => 90 | 329 => 91 | 330 => 92 | 331 => 93 | 332 => 94 | 343 => 96 | n => n, fun | 0 => 0 | 3 => 3 | 4 => 4 | 5 => 5 | 9 => 9 | 28 => 24 | 46 => 40 | 51 => 71 | 53 => 65 | 131 => 141 | 182 => 136 | 183 => 137 | 218 => 145 | 222 => 149 | 228 => 151 | 229 => 152 | n => n, fun n => n⟩
theorem sort_lays : Lays.n189 Tryd.prog sort_ren := {
  mixed := by kernel_rfl
  f125 := Tryd.func78.trans (congrArg some (by kernel_rfl))
  f128 := Tryd.func88.trans (congrArg some (by kernel_rfl))
  f129 := Tryd.func89.trans (congrArg some (by kernel_rfl))
  f189 := Tryd.func63.trans (congrArg some (by kernel_rfl))
  f215 := Tryd.func95.trans (congrArg some (by kernel_rfl))
  f216 := Tryd.func85.trans (congrArg some (by kernel_rfl))
  f257 := Tryd.func77.trans (congrArg some (by kernel_rfl))
  f294 := Tryd.func79.trans (congrArg some (by kernel_rfl))
  f295 := Tryd.func80.trans (congrArg some (by kernel_rfl))
  f296 := Tryd.func81.trans (congrArg some (by kernel_rfl))
  f297 := Tryd.func82.trans (congrArg some (by kernel_rfl))
  f298 := Tryd.func83.trans (congrArg some (by kernel_rfl))
  f299 := Tryd.func84.trans (congrArg some (by kernel_rfl))
  f300 := Tryd.func86.trans (congrArg some (by kernel_rfl))
  f301 := Tryd.func87.trans (congrArg some (by kernel_rfl))
  f328 := Tryd.func90.trans (congrArg some (by kernel_rfl))
  f329 := Tryd.func91.trans (congrArg some (by kernel_rfl))
  f330 := Tryd.func92.trans (congrArg some (by kernel_rfl))
  f331 := Tryd.func93.trans (congrArg some (by kernel_rfl))
  f332 := Tryd.func94.trans (congrArg some (by kernel_rfl))
  f343 := Tryd.func96.trans (congrArg some (by kernel_rfl))
  t0 := Tryd.underlying0
  a0 := Tryd.isAgg0
  z0 := Tryd.sizeOf0
  v0 := Tryd.zeroValue0
  t3 := Tryd.underlying3
  a3 := Tryd.isAgg3
  z3 := Tryd.sizeOf3
  v3 := Tryd.zeroValue3
  t4 := Tryd.underlying4
  a4 := Tryd.isAgg4
  z4 := Tryd.sizeOf4
  v4 := Tryd.zeroValue4
  t5 := Tryd.underlying5
  a5 := Tryd.isAgg5
  z5 := Tryd.sizeOf5
  v5 := Tryd.zeroValue5
  t9 := Tryd.underlying9
  a9 := Tryd.isAgg9
  z9 := Tryd.sizeOf9
  v9 := Tryd.zeroValue9
  t28 := Tryd.underlying24
  a28 := Tryd.isAgg24
  z28 := Tryd.sizeOf24
  v28 := Tryd.zeroValue24
  t46 := Tryd.underlying40
  a46 := Tryd.isAgg40
  z46 := Tryd.sizeOf40
  v46 := Tryd.zeroValue40
  t51 := Tryd.underlying71
  a51 := Tryd.isAgg71
  z51 := Tryd.sizeOf71
  v51 := Tryd.zeroValue71
  t53 := Tryd.underlying65
  a53 := Tryd.isAgg65
  z53 := Tryd.sizeOf65
  v53 := Tryd.zeroValue65
  t131 := Tryd.underlying141
  a131 := Tryd.isAgg141
  z131 := Tryd.sizeOf141
  v131 := Tryd.zeroValue141
  t182 := Tryd.underlying136
  a182 := Tryd.isAgg136
  z182 := Tryd.sizeOf136
  v182 := Tryd.zeroValue136
  t183 := Tryd.underlying137
  a183 := Tryd.isAgg137
  z183 := Tryd.sizeOf137
  v183 := Tryd.zeroValue137
  t218 := Tryd.underlying145
  a218 := Tryd.isAgg145
  z218 := Tryd.sizeOf145
  v218 := Tryd.zeroValue145
  t222 := Tryd.underlying149
  a222 := Tryd.isAgg149
  z222 := Tryd.sizeOf149
  v222 := Tryd.zeroValue149
  t228 := Tryd.underlying151
  a228 := Tryd.isAgg151
  z228 := Tryd.sizeOf151
  v228 := Tryd.zeroValue151
  t229 := Tryd.underlying152
  a229 := Tryd.isAgg152
  z229 := Tryd.sizeOf152
  v229 := Tryd.zeroValue152 }
theorem sort_ints (blk off cap : Nat) (zs : List Int) (w : World) (hH : Holds (Value.int .i64) w blk off zs.toArray) (hblk : blk < w.heap.size) (hsz : zs.length < 4611686018427387904) :
    Calls Tryd.prog 63 #[.slice (some ⟨blk, off, none⟩) zs.length cap] w fun e w' =>
      e = .returned (.tuple #[]) ∧ ∃ n os, w' = grow (putRow (Value.int .i64) (Sort.ahead w n) blk off (zs.mergeSort fun x y => decide (x ≤ y)).toArray) os :=
  Any.slices_Sort_int sort_lays blk off cap zs w hH hblk hsz
theorem bits_len (x : Int) (w : World) (h0 : 0 ≤ x) (h1 : x ≤ 18446744073709551615) : Calls Tryd.prog 78 #[.int .u64 x] w fun e w' => e = .returned (.int .i64 (Lib.bitLen x.toNat)) ∧ w' = w :=
  Go.calls_of_every_depth fun D => AnyS.bits_LenIn { sort_lays with } D x w h0 h1
end Go.Proofs.YtpihenmdkoojdaaDoor
set_option linter.unusedVariables false
set_option linter.unusedSimpArgs false
namespace Go.Proofs.YtpihenmdkoojdaaDoor
open Go Go.Wk
abbrev irow (e : Nat) (v : Value) (l : List Int) : Res := rowR v e 1 l.length (l.map (Value.int .i64))
theorem At.rowNilI {Γ : Ctx} {E : Env} {H : List Res} (e : Nat) {φ : Act → World → Prop} (k : At Γ E (irow e (.slice none 0 0) [] :: H) φ) : At Γ E H φ := At.rowNil e 1 k
theorem At.appendI1 {P : Program} {Γ : Ctx} {E : Env} {H : List Res} {ops : Array Oper} {Q : Exit → Act → World → Prop} {rest : List Oper} {d : Nat} {ty : TypeId} {pos : String} {after : Array Edge} {x y : Operand} {v : Value} {i j t e by_ b U : Nat} {ti : TypeInfo} {z : Value} {l : List Int} {c : Int} (ht : P.underlying t = some (.slice e)) (hti : P.info? e = some ti) (hz : ti.zero = some z) (hsize : ti.size = 1) (hby : ti.bytes = by_) (hzs : z.cells.size = 1)
    (hx : ev E x = some v) (hy : ev E y = some (.slice (some ⟨b, 0, none⟩) 1 1)) (hi : H[i]? = some (irow e v l)) (hj : H[j]? = some (blk b U [.int .i64 c])) (h63 : (l.length + 1) * by_ ≤ 140737488355328) (h64 : l.length + 1 ≤ 140737488355328) (hn : Nat.blt d Γ.n = true)
    (k : ∀ v', At Γ ((d, v') :: E) (H.set i (irow e v' (l ++ [c]))) (wpList P ops Q rest)) :
    At Γ E H (wpList P ops Q ({ dst := some d, op := .call { callee := .builtin .append, args := #[x, y], argTypes := #[t, t] }, type := ty, pos, after, guard := none } :: rest)) :=
  At.append (i := i) (ys := [.int .i64 c]) ht hti hz hsize hby hzs rfl hx hy hi rfl (fun w hw j' u hj' => by rw [Nat.zero_add]; exact ((hw.blk hj).cell j').trans hj') (by simp [Value.oneCell']) h63 h64 hn fun v' => by
    have := k v'
    simpa only [irow, List.map_append, List.map_cons, List.map_nil, List.length_append, List.length_cons, List.length_nil, Nat.zero_add] using this
/-- The words in doubt, rising. -/
def inDoubt (w : Wd) : Bool := !w.news.isEmpty
def dk (ws : List Wd) : List Nat := (List.range ws.length).filter fun k => match ws[k]? with | some w => inDoubt w | none => false
def dkeys (ws : List Wd) : List Int := (dk ws).map fun (k : Nat) => 8 * (k : Int)
theorem mem_dk {ws : List Wd} {k : Nat} : k ∈ dk ws ↔ ∃ w, ws[k]? = some w ∧ w.news ≠ [] := by
  unfold dk
  rw [List.mem_filter, List.mem_range]
  constructor
  · rintro ⟨h1, h2⟩
    cases hk : ws[k]? with
    | none => rw [hk] at h2; cases h2
    | some w => rw [hk] at h2; exact ⟨w, rfl, by intro e; simp [inDoubt, e] at h2⟩
  · rintro ⟨w, h1, h2⟩
    refine ⟨(List.getElem?_eq_some_iff.1 h1).1, ?_⟩
    rw [h1]
    cases h : w.news with
    | nil => exact absurd h h2
    | cons a l => simp [inDoubt, h]
theorem dk_rising (ws : List Wd) : (dk ws).Pairwise (· < ·) := List.pairwise_lt_range.filter _
theorem dkeys_rising (ws : List Wd) : (dkeys ws).Pairwise (· < ·) := by
  unfold dkeys
  rw [List.pairwise_map]
  exact (dk_rising ws).imp fun h => by omega
theorem mem_dkeys {ws : List Wd} {g : Nat → Nat × Value} {x : Int} : x ∈ dkeys ws ↔ (mk ws g x).isSome = true := by
  unfold dkeys
  rw [List.mem_map]
  constructor
  · rintro ⟨k, hk, rfl⟩
    obtain ⟨w, h1, h2⟩ := mem_dk.1 hk
    rw [mk_at, mkN_some h1 h2]; rfl
  · intro h
    obtain ⟨v, hv⟩ := Option.isSome_iff_exists.1 h
    obtain ⟨k, w, rfl, h1, h2, _⟩ := mk_inv hv
    exact ⟨k, mem_dk.2 ⟨w, h1, h2⟩, rfl⟩
theorem rising_eq : ∀ {a b : List Int}, a.Pairwise (· < ·) → b.Pairwise (· < ·) → (∀ x, x ∈ a ↔ x ∈ b) → a = b
  | [], [], _, _, _ => rfl
  | [], y :: b, _, _, h => by have := (h y).2 (by simp); cases this
  | x :: a, [], _, _, h => by have := (h x).1 (by simp); cases this
  | x :: a, y :: b, ha, hb, h => by
    have ha' := List.pairwise_cons.1 ha
    have hb' := List.pairwise_cons.1 hb
    have hxy : x = y := by
      rcases List.mem_cons.1 ((h x).1 (by simp)) with e | e
      · exact e
      · rcases List.mem_cons.1 ((h y).2 (by simp)) with e' | e'
        · exact e'.symm
        · have := hb'.1 x e; have := ha'.1 y e'; omega
    subst hxy
    congr 1
    refine rising_eq ha'.2 hb'.2 fun z => ?_
    have hz := h z
    simp only [List.mem_cons] at hz
    constructor
    · intro hm
      have := ha'.1 z hm
      rcases hz.1 (.inr hm) with e | e
      · omega
      · exact e
    · intro hm
      have := hb'.1 z hm
      rcases hz.2 (.inr hm) with e | e
      · omega
      · exact e
theorem rising_len : ∀ {l : List Int} {a n : Nat}, l.Pairwise (· < ·) → (∀ x ∈ l, ∃ i : Nat, x = 8 * (i : Int) ∧ a ≤ i ∧ i < n) → l ≠ [] → l.length + a ≤ n
  | [], _, _, _, _, h => absurd rfl h
  | [x], a, n, _, h, _ => by obtain ⟨i, _, h1, h2⟩ := h x (by simp); simp; omega
  | x :: y :: l, a, n, hp, h, _ => by
    obtain ⟨i, rfl, h1, h2⟩ := h x (by simp)
    have hp' := List.pairwise_cons.1 hp
    have := rising_len (l := y :: l) (a := i + 1) (n := n) hp'.2 (fun z hz => by
      obtain ⟨q, rfl, h3, h4⟩ := h z (List.mem_cons_of_mem _ hz)
      have := hp'.1 _ hz
      exact ⟨q, rfl, by omega, h4⟩) (by simp)
    simp only [List.length_cons] at this ⊢
    omega
theorem sorted_rising {l : List Int} (hn : l.Nodup) : (l.mergeSort fun x y => decide (x ≤ y)).Pairwise (· < ·) := by
  have h1 := List.pairwise_mergeSort (le := fun (x y : Int) => decide (x ≤ y)) (fun a b c h1 h2 => by simp at *; omega) (fun a b => by simp; omega) l
  have h2 : (l.mergeSort fun x y => decide (x ≤ y)).Nodup := (List.mergeSort_perm l _).nodup_iff.2 hn
  exact (h1.and h2).imp fun ⟨h3, h4⟩ => by simp at h3; omega
/-- What has been met of a map's keys. -/
def Coll (ws : List Wd) (g : Nat → Nat × Value) (left : Int → Bool) (l : List Int) : Prop := l.Nodup ∧ ∀ x, x ∈ l ↔ ((mk ws g x).isSome = true ∧ left x = false)
theorem coll_start (ws : List Wd) (g : Nat → Nat × Value) : Coll ws g (fun k => (mk ws g k).isSome) [] := ⟨by simp, fun x => ⟨fun h => (by cases h), fun ⟨h1, h2⟩ => absurd (show (mk ws g x).isSome = false from h2) (by rw [h1]; simp)⟩⟩
theorem coll_step {ws : List Wd} {g : Nat → Nat × Value} {left : Int → Bool} {l : List Int} {x : Int} {v : Value} (h : Coll ws g left l) (hl : left x = true) (hf : mk ws g x = some v) : Coll ws g (fun q => left q && q != x) (l ++ [x]) := by
  have hx : x ∉ l := fun hm => by have := ((h.2 x).1 hm).2; rw [hl] at this; cases this
  refine ⟨List.nodup_append.2 ⟨h.1, by simp, fun a ha b hb => by rw [List.mem_singleton.1 hb]; intro e; exact hx (e ▸ ha)⟩, fun q => ?_⟩
  rw [List.mem_append, List.mem_singleton, h.2 q]
  constructor
  · rintro (⟨h1, h2⟩ | rfl)
    · exact ⟨h1, by show (left q && q != x) = false; rw [h2]; rfl⟩
    · exact ⟨by rw [hf]; rfl, by simp⟩
  · rintro ⟨h1, h2⟩
    by_cases e : q = x
    · exact .inr e
    · refine .inl ⟨h1, ?_⟩
      have : (q != x) = true := by simpa using e
      have h2 : (left q && q != x) = false := h2
      rw [this, Bool.and_true] at h2; exact h2
theorem coll_len {ws : List Wd} {g : Nat → Nat × Value} {left : Int → Bool} {l : List Int} (h : Coll ws g left l) : l.length ≤ ws.length := by
  by_cases e : l = []
  · subst e; simp
  · have hr := sorted_rising h.1
    have := rising_len (a := 0) (n := ws.length) hr (fun x hx => by
      have hx' := ((h.2 x).1 ((List.mergeSort_perm l _).mem_iff.1 hx)).1
      obtain ⟨v, hv⟩ := Option.isSome_iff_exists.1 hx'
      obtain ⟨k, w, rfl, h1, _, _⟩ := mk_inv hv
      exact ⟨k, rfl, Nat.zero_le _, (List.getElem?_eq_some_iff.1 h1).1⟩) (fun h0 => e (by have := congrArg List.length h0; rw [List.length_mergeSort] at this; exact List.eq_nil_of_length_eq_zero this))
    rw [List.length_mergeSort] at this
    omega
theorem coll_end {ws : List Wd} {g : Nat → Nat × Value} {left : Int → Bool} {l : List Int} (h : Coll ws g left l) (hl : ∀ k, left k = false) : l.mergeSort (fun x y => decide (x ≤ y)) = dkeys ws :=
  rising_eq (sorted_rising h.1) (dkeys_rising ws) fun x => by
    rw [(List.mergeSort_perm l _).mem_iff, h.2 x, hl x, mem_dkeys (g := g)]
    simp
theorem ins_nil (w : World) :
    PureC Tryd.prog 79 [.slice none 0 0, .int .i64 0, .int .i64 0] (.tuple #[]) w := by
 refine enter0 Tryd.func79 rfl Tryd.ntmps79 rfl ?_
 simp only [envOf]
 refine tR ?_
 refine tM rfl rfl ?_
 first | refine At.val (Val.addI rfl rfl (by omega) (by omega)) rfl rfl rfl ?_ | refine At.val (Val.bin rfl rfl rfl) rfl rfl rfl ?_
 refine tA rfl rfl ?_
 refine tE ?_
 refine At.block ?_
 skip
 refine At.loop (σ := Unit) (fun u => True) (fun u => [(2, .int .i64 0), (6, .int .i64 1)]) (fun u => []) (fun u => 0) () trivial (Sub.cons rfl (Sub.cons rfl Sub.nil)) (List.Perm.refl _) ?_
 intro u hs
 refine At.seq ?_
 refine tR ?_
 refine tM rfl rfl ?_
 refine tM rfl rfl ?_
 refine At.val (Val.bin rfl rfl rfl) rfl rfl rfl ?_
 refine tE ?_
 refine At.cond rfl (fun h1 => ?_) (fun h1 => ?_)
 ·skip
  try simp only [hasB, isSizeB, Bool.not_eq_true', Bool.not_eq_false', bne_iff_ne, ne_eq, bne_eq_false_iff_eq, beq_iff_eq, beq_eq_false_iff_ne, decide_eq_true_eq, decide_eq_false_iff_not, gt_iff_lt, ge_iff_le] at h1
  omega
 ·skip
  try simp only [hasB, isSizeB, Bool.not_eq_true', Bool.not_eq_false', bne_iff_ne, ne_eq, bne_eq_false_iff_eq, beq_iff_eq, beq_eq_false_iff_ne, decide_eq_true_eq, decide_eq_false_iff_not, gt_iff_lt, ge_iff_le] at h1
  refine At.exitC ?_
  refine At.thenX ?_
  refine At.thenX ?_
  refine At.blkX ?_
  refine At.ret0 (.inr rfl) rfl rfl  (fun w hw => ?_)
  exact ⟨rfl, hw.mod⟩
theorem pdq_nil (k : Int) (w : World) :
    PureC Tryd.prog 77 [.slice none 0 0, .int .i64 0, .int .i64 0, .int .i64 k] (.tuple #[]) w := by
 refine enter0 Tryd.func77 rfl Tryd.ntmps77 rfl ?_
 simp only [envOf]
 refine tR ?_
 refine tA rfl rfl ?_
 refine tE ?_
 refine tR ?_
 refine tA rfl rfl ?_
 refine tE ?_
 refine At.block ?_
 skip
 refine At.loop (σ := Unit) (fun u => True) (fun u => [(0, .slice none 0 0), (1, .int .i64 0), (2, .int .i64 0)]) (fun u => []) (fun u => 0) () trivial (Sub.cons rfl (Sub.cons rfl (Sub.cons rfl Sub.nil))) (List.Perm.refl _) ?_
 intro u hs
 refine At.block ?_
 refine tR ?_
 refine tM rfl rfl ?_
 refine tM rfl rfl ?_
 first | refine At.val (Val.subI rfl rfl (by omega) (by omega)) rfl rfl rfl ?_ | refine At.val (Val.bin rfl rfl rfl) rfl rfl rfl ?_
 refine tA rfl rfl ?_
 refine tE ?_
 refine At.seq ?_
 refine tR ?_
 refine tM rfl rfl ?_
 refine At.val (Val.bin rfl rfl rfl) rfl rfl rfl ?_
 refine tE ?_
 refine At.cond rfl (fun h1 => ?_) (fun h1 => ?_)
 ·skip
  try simp only [hasB, isSizeB, Bool.not_eq_true', Bool.not_eq_false', bne_iff_ne, ne_eq, bne_eq_false_iff_eq, beq_iff_eq, beq_eq_false_iff_ne, decide_eq_true_eq, decide_eq_false_iff_not, gt_iff_lt, ge_iff_le] at h1
  refine tR ?_
  refine tM rfl rfl ?_
  refine tM rfl rfl ?_
  refine tM rfl rfl ?_
  refine At.callP (fun w hw => ins_nil w) Tryd.call79 rfl rfl ?_
  refine tE ?_
  refine At.retC ?_
  refine At.thenR ?_
  refine At.blkR ?_
  refine At.thenR ?_
  refine At.blkR ?_
  refine At.ret0 (.inl rfl) rfl rfl  (fun w hw => ?_)
  exact ⟨rfl, hw.mod⟩
 ·skip
  try simp only [hasB, isSizeB, Bool.not_eq_true', Bool.not_eq_false', bne_iff_ne, ne_eq, bne_eq_false_iff_eq, beq_iff_eq, beq_eq_false_iff_ne, decide_eq_true_eq, decide_eq_false_iff_not, gt_iff_lt, ge_iff_le] at h1
  omega
theorem sort_nil (w : World) :
    PureC Tryd.prog 63 [.slice none 0 0] (.tuple #[]) w := by
 refine enter0 Tryd.func63 rfl Tryd.ntmps63 rfl ?_
 simp only [envOf]
 refine tR ?_
 refine tM rfl rfl ?_
 refine At.val (Val.len (bt := #[]) Tryd.underlying24 rfl) rfl rfl rfl ?_
 refine tA rfl rfl ?_
 refine tE ?_
 refine At.region ?_
 refine tM rfl rfl ?_
 refine tM rfl rfl ?_
 refine tM rfl rfl ?_
 refine At.val (Val.conv (P := Tryd.prog) (s := 3) (t := 40) Tryd.underlying3 Tryd.underlying40 rfl) rfl rfl rfl ?_
 rw [show IntKind.u64.wrap ((0 : Nat) : Int) = 0 from rfl]
 refine At.callP (fun w hw => (bits_len 0 w (by omega) (by omega)).mono fun e w' ⟨h1, h2⟩ => ⟨h1, by subst h2; exact Mod.refl _ _⟩) Tryd.call78 rfl rfl ?_
 refine At.callP (fun w hw => pdq_nil _ w) Tryd.call77 rfl rfl ?_
 refine At.nil ?_
 refine At.ret0 (.inr rfl) rfl rfl  (fun w hw => ?_)
 exact ⟨rfl, hw.mod⟩
theorem sort_u (v : Value) (l : List Int) (w : World) (h : (irow 3 v l).holds w) (hl : l.length < 4611686018427387904) : Upd Tryd.prog 63 [v] (irow 3 v l) (.tuple #[]) (irow 3 v (l.mergeSort fun x y => decide (x ≤ y))) w := by
  have hm : ∀ w', Mod (fun _ => False) w w' → Rep w (feet [irow 3 v l]) [irow 3 v l] w' := fun w' hm' => (Rep.one h).garbage hm'
  have h0 : w.ownsRow 0 3 1 v l.length (l.map (Value.int .i64)) := h
  rcases h0.2 with ⟨rfl, hn⟩ | ⟨g, cap, cur, rfl, hbase, hb, h1, h2, h3, h4⟩
  · have : l = [] := List.eq_nil_of_length_eq_zero hn
    subst this
    exact (sort_nil w).mono fun e w' ⟨he, hmod⟩ => ⟨he, by rw [List.mergeSort_nil]; exact hm w' hmod⟩
  · refine (sort_ints g 0 cap l w (holds_of_blockI hb (by simpa using h4)) (Array.getElem?_eq_some_iff.1 hb).1 hl).mono ?_
    rintro e w' ⟨rfl, n, os, rfl⟩
    refine ⟨rfl, ?_⟩
    have hg := grownBy_sortedI (w := w) (g := g) (n := n) (os := os) (l.mergeSort fun x y => decide (x ≤ y)).toArray
    have ho := ownsRow_sortedI (w := w) (base := 0) (n := n) (os := os) (ts := l.mergeSort fun x y => decide (x ≤ y)) (by simp) hbase hb h1 h2 h3
    exact Rep.change (i := 0) (r := irow 3 (.slice (some ⟨g, 0, none⟩) l.length cap) l) (r' := irow 3 (.slice (some ⟨g, 0, none⟩) l.length cap) (l.mergeSort fun x y => decide (x ≤ y))) rfl (Rep.one h) (grown_mod hg) (by
      show World.ownsRow _ 0 _ 1 _ _ _
      rw [List.length_mergeSort]; exact ho) (fun b hb => .inl hb)
theorem places_k (p : Nat) (γ : Gh) (σ : Ds) (w : World) (hd : (Dev p γ σ).holds w) :
    RowK Tryd.prog 46 [.pointer (some ⟨p, 0, none⟩)] (Dev p γ σ) 3 1 (dkeys σ.ws).length ((dkeys σ.ws).map (Value.int .i64)) w := by
 refine enterV hd Tryd.func46 rfl Tryd.ntmps46 rfl ?_
 unfold devL
 have hgd := Dev.good hd
 have hln := hgd.len
 simp only [envOf]
 refine tR ?_
 refine tA rfl rfl ?_
 refine tE ?_
 refine tR ?_
 refine tA rfl rfl ?_
 refine tE ?_
 refine At.seq ?_
 refine At.seq ?_
 refine At.rowNilI 3 ?_
 refine At.region ?_
 refine tM rfl rfl ?_
 refine At.val (Val.nilCheck rfl) rfl rfl rfl ?_
 refine At.val (Val.field 1 rfl fo_92_1 rfl) rfl rfl rfl ?_
 refine At.val (Val.load (i := 1) Tryd.isAgg90 rfl rfl rfl) rfl rfl rfl ?_
 refine At.range (i := 3) Tryd.underlying90 rfl rfl rfl (fun r1 cnt2 => ?_)
 simp only [sc0, scS]
 refine tE ?_
 refine At.block ?_
 skip
 refine At.loop (σ := (Int → Bool) × Option (Int × Value) × Nat × List Int × Value) (fun s => Coll σ.ws γ.g s.1 s.2.2.2.1) (fun s => [(0, .pointer (some ⟨p, 0, none⟩)), (3, s.2.2.2.2), (9, .pointer (some ⟨r1, 0, none⟩))]) (fun s => [irow 3 s.2.2.2.2 s.2.2.2.1, blk p tDv [γ.vo, .map (some γ.mb), .int .i64 (σ.steps : Int), .bool σ.armed, .int .i64 (σ.left : Int)], wrow tW γ.vo (olds σ.ws), iterR γ.mb r1 (mk σ.ws γ.g) s.1 s.2.1 s.2.2.1, fam (dI σ.ws γ.g), factR (Dgood σ)]) (fun s => s.2.2.1) ((fun k => (mk σ.ws γ.g k).isSome), none, cnt2, [], .slice none 0 0) (coll_start _ _) (Sub.cons rfl (Sub.cons rfl (Sub.cons rfl Sub.nil))) (List.Perm.refl _) ?_
 intro s hs
 obtain ⟨left, cur, cnt, l, vl⟩ := s
 dsimp only at hs ⊢
 have hcl := coll_len hs
 refine tR ?_
 refine At.next (i := 3) rfl rfl rfl (fun hl => ?_) (fun x v cn hl hf hcn => ?_)
 skip
 ·skip
  refine At.val (Val.extract rfl rfl) rfl rfl rfl ?_
  refine tE ?_
  refine At.seq ?_
  refine At.condF rfl ?_
  refine At.exitC ?_
  refine At.thenX ?_
  refine At.thenX ?_
  refine At.blkX ?_
  refine At.thenN ?_
  refine At.seq ?_
  refine At.iterEnd 3 rfl ?_
  simp only [sc0, scS]
  refine At.region ?_
  refine tM rfl rfl ?_
  refine At.call1 0 rfl (fun w hw hr => sort_u _ _ w hr (by omega)) Tryd.call63 rfl rfl ?_
  simp only [sc0, scS]
  refine tE ?_
  refine tR ?_
  refine tM rfl rfl ?_
  refine tA rfl rfl ?_
  refine tE ?_
  refine At.retC ?_
  refine At.ret1 (.inl rfl) rfl rfl rfl (fun w hw => ?_)
  rw [coll_end hs hl] at hw
  exact ⟨_, rfl, retRK (F := []) hw⟩
 ·skip
  simp only [sc0, scS]
  refine At.val (Val.extract rfl rfl) rfl rfl rfl ?_
  refine tE ?_
  refine At.seq ?_
  refine At.condT rfl ?_
  refine At.skipC ?_
  refine At.thenN ?_
  refine At.block ?_
  refine tR ?_
  refine At.val (Val.entry (i := 3) rfl rfl) rfl rfl rfl ?_
  refine At.val (Val.extract rfl rfl) rfl rfl rfl ?_
  refine tA rfl rfl ?_
  refine tE ?_
  refine At.region ?_
  refine tM rfl rfl ?_
  refine tM rfl rfl ?_
  refine At.buildSl (fun a ha => by simp only [List.map_toArray, List.map_cons, List.map_nil, ha.eval (x := (.tmp 15)) rfl]; try rfl) (bs_24_1 _ ) rfl (fun b3 => ?_)
  refine At.appendI1 (i := 1) (j := 0) (by_ := 8) Tryd.underlying24 info_3 rfl rfl rfl rfl rfl rfl rfl rfl (by omega) (by omega) rfl (fun v4 => ?_)
  simp only [sc0, scS]
  refine At.drop 0 ?_
  simp only [ec0, ecS]
  refine tA rfl rfl ?_
  refine At.nil ?_
  refine At.blkN ?_
  refine At.thenN ?_
  exact At.again ((fun q => left q && q != x), some (x, v), cn, l ++ [x], v4) (coll_step hs hl hf) (show cn < cnt by omega) (Sub.cons rfl (Sub.cons rfl (Sub.cons rfl Sub.nil))) (List.Perm.refl _)
end Go.Proofs.YtpihenmdkoojdaaDoor
set_option linter.unusedVariables false
set_option linter.unusedSimpArgs false
namespace Go.Wk
open Go
def wbytes (xs : List (BitVec 64)) : List UInt8 := xs.flatMap le8
theorem wbytes_cons (x : BitVec 64) (xs : List (BitVec 64)) : wbytes (x :: xs) = le8 x ++ wbytes xs := rfl
theorem wbytes_append (a b : List (BitVec 64)) : wbytes (a ++ b) = wbytes a ++ wbytes b := by simp [wbytes]
theorem wbytes_length : ∀ xs : List (BitVec 64), (wbytes xs).length = 8 * xs.length
  | [] => rfl
  | x :: xs => by rw [wbytes_cons, List.length_append, wbytes_length xs, le_length, List.length_cons]; omega
theorem le8_zero : le8 0 = zs 8 := rfl
theorem wbytes_zero : ∀ n : Nat, wbytes (List.replicate n 0) = zs (8 * n)
  | 0 => rfl
  | n + 1 => by
    rw [List.replicate_succ, wbytes_cons, wbytes_zero n, le8_zero]
    unfold zs
    rw [List.replicate_append_replicate]; congr 1; omega
theorem put8_set {xs : List (BitVec 64)} {k : Nat} (x : BitVec 64) (h : k < xs.length) : put8 (wbytes xs) (8 * k) x = wbytes (xs.set k x) := by
  have e : xs = xs.take k ++ xs[k] :: xs.drop (k + 1) := by rw [← List.drop_eq_getElem_cons h, List.take_append_drop]
  have hl : (wbytes (xs.take k)).length = 8 * k := by rw [wbytes_length, List.length_take]; omega
  have e2 : wbytes xs = wbytes (xs.take k) ++ (le8 xs[k] ++ wbytes (xs.drop (k + 1))) := by conv => lhs; rw [e, wbytes_append, wbytes_cons]
  rw [List.set_eq_take_append_cons_drop, if_pos h, wbytes_append, wbytes_cons]
  unfold put8 putK
  rw [e2, List.take_left' hl, le_take_all, ← List.append_assoc (wbytes (xs.take k)) (le8 xs[k]), List.drop_left' (by rw [List.length_append, hl, le_length]), List.append_assoc]
theorem wbytes_take {xs : List (BitVec 64)} {k : Nat} {x : BitVec 64} (h : xs[k]? = some x) : ((wbytes xs).drop (8 * k)).take 8 = le8 x := by
  have hk := (List.getElem?_eq_some_iff.1 h)
  have e : xs = xs.take k ++ x :: xs.drop (k + 1) := by rw [← hk.2, ← List.drop_eq_getElem_cons hk.1, List.take_append_drop]
  have hl : (wbytes (xs.take k)).length = 8 * k := by rw [wbytes_length, List.length_take]; have := hk.1; omega
  have e2 : wbytes xs = wbytes (xs.take k) ++ (le8 x ++ wbytes (xs.drop (k + 1))) := by conv => lhs; rw [e, wbytes_append, wbytes_cons]
  rw [e2, List.drop_left' hl, List.take_left' (le_length ..)]
theorem wbytes_word {xs : List (BitVec 64)} {k : Nat} {x : BitVec 64} (h : xs[k]? = some x) : wdA (wbytes xs) (8 * k) = x := by
  unfold wdA num
  rw [wbytes_take h]
  exact num_le8 x
theorem take_set_zero {xs : List (BitVec 64)} {k : Nat} {x : BitVec 64} (h : xs[k]? = some x) : (xs.take k ++ List.replicate (xs.length - k) 0).set k x = xs.take (k + 1) ++ List.replicate (xs.length - (k + 1)) 0 := by
  have hk := (List.getElem?_eq_some_iff.1 h).1
  rw [List.set_append_right _ _ (by rw [List.length_take]; omega), List.length_take, show min k xs.length = k by omega, Nat.sub_self]
  obtain ⟨m, hm⟩ : ∃ m, xs.length - k = m + 1 := ⟨xs.length - k - 1, by omega⟩
  rw [hm, List.replicate_succ, List.set_cons_zero, show xs.length - (k + 1) = m from by omega, List.take_add_one, h]
  simp
abbrev RdI (w : World) (v : Value) (l : List Int) : Prop := Rd w v 1 l.length (l.map (Value.int .i64))
section
variable {P : Program} {Γ : Ctx} {E : Env} {H L F : List Res} {ops : Array Oper} {Q : Exit → Act → World → Prop} {rest : List Oper} {w0 w w' : World} {S : Nat → Prop} {φ : Act → World → Prop} {ψ : Act → Prop}
  {d : Nat} {dst : Option Tmp} {gd : Option (Nat × Bool)} {ty : TypeId} {pos : String} {after : Array Edge} {x y z : Operand} {v u : Value}
theorem At.sink5 {a b c e f r : Res} (h : At Γ E (a :: b :: c :: e :: f :: r :: F) φ) : At Γ E (r :: a :: b :: c :: e :: f :: F) φ := fun q w ha hw => h q w ha (hw.perm (List.perm_middle (l₁ := [a, b, c, e, f])).symm)
theorem At.rowCapD {i e sz n c : Nat} {A : Option Addr} {xs : List Value} (hi : H[i]? = some (rowR (.slice A n c) e sz n xs)) (k : n ≤ c → At Γ E H φ) : At Γ E H φ := fun a w ha hw => by
  rcases (hw.row hi).2 with ⟨_, h⟩ | ⟨b, cap, cur, h, h1⟩
  · exact k (by omega) a w ha hw
  · simp only [Value.slice.injEq] at h
    obtain ⟨_, _, rfl⟩ := h
    exact k (by have := h1; omega) a w ha hw
theorem Val.makeFunc2 {fn : FuncId} {x y : Operand} (hx : ev E x = some v) (hy : ev E y = some u) : Val P Γ E H ⟨dst, .makeFunc (.func fn) #[] #[x, y], ty, pos, after, gd⟩ (.func (.func fn) #[] #[v, u]) := fun a w ha _ => by
  simp [execOp, Instr.makeFunc, ha.eval hx, ha.eval hy]
theorem rd_one {sz n : Nat} {xs : List Value} (h : Rd w v sz n xs) : v.cells = [v].toArray := by
  obtain ⟨A, c, rfl, _⟩ := h; rfl
/-- An int of a list that is read. -/
theorem QAt.idxI {t el : Nat} {l : List Int} {k : IntKind} {j : Int} (h : RdI Γ.w0 v l) (hu : P.underlying t = some (.slice el)) (hs : ∀ w, (sizeOf el).run P w = .ok 1 w) (hx : ev E x = some v) (hy : ev E y = some (.int k j)) (h0 : 0 ≤ j) (h1 : j < l.length)
    (hg : gd = none) (hn : Nat.blt d Γ.n = true)
    (c : ∀ b o q, l[j.toNat]? = some q → Γ.w0.cell? ⟨b, o, none⟩ = some (.int .i64 q) → (∃ n' c', v = .slice (some ⟨b, o - j.toNat, none⟩) n' c') → QAt P Γ ops ((d, .pointer (some ⟨b, o, none⟩)) :: E) H rest ψ) :
    QAt P Γ ops E H ({ dst := some d, op := .indexAddr t x y, type := ty, pos, after, guard := gd } :: rest) ψ := by
  obtain ⟨b, o, cap, rfl, hc⟩ := h.at (j := j.toNat) (by omega)
  have hq : l[j.toNat]? = some (l[j.toNat]'(by omega)) := List.getElem?_eq_getElem _
  refine QAt.val (Val.indexSl _ rfl hu hs hx hy h0 h1) hg rfl hn (c b (o + j.toNat * 1) _ hq (hc 0 _ (by rw [Nat.mul_one, Nat.add_zero, List.getElem?_map, hq]; rfl)) ⟨_, _, by rw [Nat.mul_one, Nat.add_sub_cancel]⟩)
end
end Go.Wk
set_option linter.unusedVariables false
set_option linter.unusedSimpArgs false
namespace Go.Proofs.YtpihenmdkoojdaaDoor
open Go Go.Wk
def pickC (cs : List Int) (K : Nat) (w : Wd) : BitVec 64 :=
  let n : Int := (w.news.length : Int) + 1
  let c : Int := match cs[K]? with | some c => (if c.tmod n < 0 then c.tmod n + n else c.tmod n) | none => 0
  if c = 0 then w.old else (w.news[(c - 1).toNat]?).getD w.old
/-- The words, those in doubt as they are picked. -/
def pickK (ws : List Wd) (pk : Nat → Nat → BitVec 64) : Nat → List (BitVec 64)
  | 0 => olds ws
  | K + 1 => match (dk ws)[K]? with | some k => (pickK ws pk K).set k (pk K k) | none => pickK ws pk K
def picked (ws : List Wd) (pk : Nat → Nat → BitVec 64) : List (BitVec 64) := pickK ws pk (dk ws).length
theorem pickK_length (ws : List Wd) (pk : Nat → Nat → BitVec 64) : ∀ K, (pickK ws pk K).length = ws.length
  | 0 => olds_length ws
  | K + 1 => by unfold pickK; split <;> simp [pickK_length ws pk K]
theorem pickK_succ {ws : List Wd} {pk : Nat → Nat → BitVec 64} {K k : Nat} (h : (dk ws)[K]? = some k) : pickK ws pk (K + 1) = (pickK ws pk K).set k (pk K k) := by
  conv => lhs; unfold pickK
  rw [h]
def pkC (ws : List Wd) (cs : List Int) (K k : Nat) : BitVec 64 := match ws[k]? with | some w => pickC cs K w | none => 0
def pkV (ws : List Wd) (K k : Nat) : BitVec 64 := match ws[k]? with | some w => nowW w | none => 0
theorem pkC_at {ws : List Wd} {cs : List Int} {K k : Nat} {w : Wd} (h : ws[k]? = some w) : pkC ws cs K k = pickC cs K w := by unfold pkC; rw [h]
theorem pkV_at {ws : List Wd} {K k : Nat} {w : Wd} (h : ws[k]? = some w) : pkV ws K k = nowW w := by unfold pkV; rw [h]
theorem pick_old {cs : List Int} {K : Nat} {w : Wd} {c : Int} (hc : c = 0) (h : c = (match cs[K]? with | some c => (if c.tmod ((w.news.length : Int) + 1) < 0 then c.tmod ((w.news.length : Int) + 1) + ((w.news.length : Int) + 1) else c.tmod ((w.news.length : Int) + 1)) | none => 0)) : pickC cs K w = w.old := by
  unfold pickC; simp only; rw [← h, if_pos hc]
theorem pick_new {cs : List Int} {K : Nat} {w : Wd} {c : Int} {z : BitVec 64} (hc : c ≠ 0) (h : c = (match cs[K]? with | some c => (if c.tmod ((w.news.length : Int) + 1) < 0 then c.tmod ((w.news.length : Int) + 1) + ((w.news.length : Int) + 1) else c.tmod ((w.news.length : Int) + 1)) | none => 0)) (hz : w.news[(c - 1).toNat]? = some z) : pickC cs K w = z := by
  unfold pickC; simp only; rw [← h, if_neg hc, hz]; rfl
theorem pick_bd {cs : List Int} {K : Nat} {n c : Int} (hn : 0 < n) (hs : c = (match cs[K]? with | some c => c.tmod n | none => 0)) : -n < c ∧ c < n := by
  cases hq : cs[K]? with
  | none => rw [hq] at hs; simp only at hs; omega
  | some q =>
    rw [hq] at hs; simp only at hs
    rw [hs]
    exact ⟨Int.lt_tmod_of_pos q hn, Int.tmod_lt_of_pos q hn⟩
theorem pick_meet {cs : List Int} {K : Nat} {n c e : Int} (hs : c = (match cs[K]? with | some c => c.tmod n | none => 0)) (he : (c < 0 ∧ e = c + n) ∨ (0 ≤ c ∧ e = c)) (hn : 0 < n) (h1 : 0 ≤ e) (h2 : e < n) :
    e = (match cs[K]? with | some c => (if c.tmod n < 0 then c.tmod n + n else c.tmod n) | none => 0) ∧ 0 ≤ e ∧ e < n := by
  refine ⟨?_, h1, h2⟩
  cases hq : cs[K]? with
  | none => rw [hq] at hs; simp only at hs ⊢; omega
  | some q =>
    rw [hq] at hs; simp only at hs ⊢
    rw [← hs]
    split <;> omega
theorem viewCl_k (p : Nat) (γ : Gh) (σ : Ds) (k : Nat) (wd : Wd) (a b : Int) (w : World) (hk : σ.ws[k]? = some wd) (hn : wd.news ≠ []) (hd : (Dev p γ σ).holds w) :
    Upd Tryd.prog 38 [.int .i64 a, .int .i64 b, .pointer (some ⟨(γ.g k).1, 0, none⟩)] (Dev p γ σ) (b64 (nowW wd)) (Dev p γ σ) w := by
 refine enterV hd Tryd.func38 rfl Tryd.ntmps38 rfl ?_
 unfold devL
 have hgd := Dev.good hd
 have hst := hgd.steps
 have hwd := hgd.word wd (List.mem_of_getElem? hk)
 have hpos := List.length_pos_iff.2 hn
 simp only [envOf]
 refine tR ?_
 refine tA rfl rfl ?_
 refine tE ?_
 refine At.seq ?_
 refine At.dbtSome 3 rfl hk hn (fun b o c hv => ?_)
 refine At.quiet rfl (by decide +kernel) ?_
 refine qM rfl rfl ?_
 refine QAt.val (Val.nilCheck rfl) rfl rfl rfl ?_
 refine QAt.val (Val.field 0 rfl fo_85_0 rfl) rfl rfl rfl ?_
 refine QAt.val (Val.loadDbt (i := 3) Tryd.isAgg83 rfl rfl hk hn rfl) rfl rfl rfl ?_
 refine qM rfl rfl ?_
 refine QAt.val (Val.nilCheck rfl) rfl rfl rfl ?_
 refine QAt.val (Val.field 0 rfl fo_85_0 rfl) rfl rfl rfl ?_
 refine QAt.val (Val.loadDbt (i := 3) Tryd.isAgg83 rfl rfl hk hn rfl) rfl rfl rfl ?_
 refine QAt.val (Val.lenDbt (i := 3) rfl hk hn Tryd.underlying83 rfl) rfl rfl rfl ?_
 refine QAt.val (Val.subI rfl rfl (by omega) (by omega)) rfl rfl rfl ?_
 rw [hv]
 refine QAt.val (Val.indexSl (o + (wd.news.length - 1)) (by omega) Tryd.underlying83 Tryd.sizeOf65 rfl rfl (by omega) (by omega)) rfl rfl rfl ?_
 refine QAt.val (Val.loadNews (i := 3) Tryd.isAgg65 rfl rfl hk hn hv rfl (now_last hn (y := nowW wd) rfl)) rfl rfl rfl ?_
 refine QAt.val (Val.assign rfl) rfl rfl rfl ?_
 refine QAt.fin ?_
 refine At.thenN ?_
 refine At.retC ?_
 refine At.ret1 (.inl rfl) rfl rfl rfl (fun w hw => ?_)
 exact ⟨rfl, retK (F := []) hw⟩
theorem crashCl_k (p : Nat) (γ : Gh) (σ : Ds) (k K bc bd : Nat) (wd : Wd) (vc : Value) (cs : List Int) (w : World) (hk : σ.ws[k]? = some wd) (hn : wd.news ≠ []) (hK : K < 65536) (hc : w.cell? ⟨bc, 0, none⟩ = some vc) (hcd : w.cell? ⟨bd, 0, none⟩ = some (.pointer (some ⟨p, 0, none⟩))) (hfc : ¬ feet [Dev p γ σ] bc) (hfd : ¬ feet [Dev p γ σ] bd) (hv : RdI w vc cs) (ho : Off vc (cs.map (Value.int .i64)) (feet [Dev p γ σ])) (hd : (Dev p γ σ).holds w) :
    Upd Tryd.prog 45 [.int .i64 (K : Int), .int .i64 (8 * (k : Int)), .pointer (some ⟨(γ.g k).1, 0, none⟩), .pointer (some ⟨bc, 0, none⟩), .pointer (some ⟨bd, 0, none⟩)] (Dev p γ σ) (b64 (pickC cs K wd)) (Dev p γ σ) w := by
 refine enterV hd Tryd.func45 rfl Tryd.ntmps45 rfl ?_
 unfold devL
 have hgd := Dev.good hd
 have hst := hgd.steps
 have hln := hgd.len
 have hkl := (List.getElem?_eq_some_iff.1 hk).1
 have hwd := hgd.word wd (List.mem_of_getElem? hk)
 have hpos := List.length_pos_iff.2 hn
 simp only [envOf]
 refine tR ?_
 refine tA rfl rfl ?_
 refine tE ?_
 refine tR ?_
 refine tA rfl rfl ?_
 refine tE ?_
 refine At.join (σ := Int) (fun c => c = (match cs[K]? with | some c => c.tmod ((wd.news.length : Int) + 1) | none => 0)) (fun c => [(1, .int .i64 (8 * (k : Int))), (2, .pointer (some ⟨(γ.g k).1, 0, none⟩)), (4, .pointer (some ⟨bd, 0, none⟩)), (9, .int .i64 c)]) (fun c => [blk p tDv ([γ.vo, .map (some γ.mb), .int .i64 (σ.steps : Int), .bool σ.armed, .int .i64 (σ.left : Int)]), rowR γ.vo tW 1 ((olds σ.ws).length) ((olds σ.ws).map b64), mapR γ.mb (mk σ.ws γ.g), fam (dI σ.ws γ.g), factR (Dgood σ)]) ?_ ?_
 ·skip
  refine tR ?_
  refine tM rfl rfl ?_
  refine At.val (Val.loadOld Tryd.isAgg24 rfl hc hfc) rfl rfl rfl ?_
  refine At.val (Val.lenRd hv Tryd.underlying24 rfl) rfl rfl rfl ?_
  refine At.val (Val.bin rfl rfl rfl) rfl rfl rfl ?_
  refine tE ?_
  refine At.cond rfl (fun h1 => ?_) (fun h1 => ?_)
  ·skip
   try simp only [hasB, isSizeB, Bool.not_eq_true', Bool.not_eq_false', bne_iff_ne, ne_eq, bne_eq_false_iff_eq, beq_iff_eq, beq_eq_false_iff_ne, decide_eq_true_eq, decide_eq_false_iff_not, gt_iff_lt, ge_iff_le] at h1
   refine At.quiet rfl (by decide +kernel) ?_
   refine QAt.val (Val.loadOld Tryd.isAgg24 rfl hc hfc) rfl rfl rfl ?_
   refine qM rfl rfl ?_
   refine QAt.idxI hv Tryd.underlying24 Tryd.sizeOf3 rfl rfl (by omega) (by omega) rfl rfl (fun bq oq c hcq hcell hvs => ?_)
   rw [Int.toNat_natCast] at hcq hvs
   obtain ⟨n', c', hvs⟩ := hvs
   refine QAt.val (Val.loadOld Tryd.isAgg3 rfl hcell (ho (fun h0 => by rw [List.map_eq_nil_iff] at h0; rw [h0] at hcq; cases hcq) _ _ _ _ _ hvs)) rfl rfl rfl ?_
   refine qM rfl rfl ?_
   refine QAt.val (Val.nilCheck rfl) rfl rfl rfl ?_
   refine QAt.val (Val.field 0 rfl fo_85_0 rfl) rfl rfl rfl ?_
   refine QAt.val (Val.loadDbt (i := 3) Tryd.isAgg83 rfl rfl hk hn rfl) rfl rfl rfl ?_
   refine QAt.val (Val.lenDbt (i := 3) rfl hk hn Tryd.underlying83 rfl) rfl rfl rfl ?_
   refine QAt.val (Val.addI rfl rfl (by omega) (by omega)) rfl rfl rfl ?_
   refine QAt.val (Val.rem rfl rfl (by omega)) rfl rfl rfl ?_
   refine QAt.val (Val.assign rfl) rfl rfl rfl ?_
   refine QAt.fin ?_
   refine At.thenN ?_
   exact At.meets (c.tmod ((wd.news.length : Int) + 1)) (by rw [hcq]) (Sub.cons rfl (Sub.cons rfl (Sub.cons rfl (Sub.cons rfl Sub.nil)))) (List.Perm.refl _)
  ·skip
   try simp only [hasB, isSizeB, Bool.not_eq_true', Bool.not_eq_false', bne_iff_ne, ne_eq, bne_eq_false_iff_eq, beq_iff_eq, beq_eq_false_iff_ne, decide_eq_true_eq, decide_eq_false_iff_not, gt_iff_lt, ge_iff_le] at h1
   have hcq : cs[K]? = none := List.getElem?_eq_none (by omega)
   refine At.skipC ?_
   refine At.thenN ?_
   exact At.meets (0 : Int) (by rw [hcq]) (Sub.cons rfl (Sub.cons rfl (Sub.cons rfl (Sub.cons rfl Sub.nil)))) (List.Perm.refl _)
 ·skip
  intro c hs
  have hcb := pick_bd (n := (wd.news.length : Int) + 1) (by omega) hs
  refine At.join (σ := Int) (fun e => e = (match cs[K]? with | some c => (if c.tmod ((wd.news.length : Int) + 1) < 0 then c.tmod ((wd.news.length : Int) + 1) + ((wd.news.length : Int) + 1) else c.tmod ((wd.news.length : Int) + 1)) | none => 0) ∧ 0 ≤ e ∧ e < (wd.news.length : Int) + 1) (fun e => [(1, .int .i64 (8 * (k : Int))), (2, .pointer (some ⟨(γ.g k).1, 0, none⟩)), (4, .pointer (some ⟨bd, 0, none⟩)), (9, .int .i64 e)]) (fun e => [blk p tDv ([γ.vo, .map (some γ.mb), .int .i64 (σ.steps : Int), .bool σ.armed, .int .i64 (σ.left : Int)]), rowR γ.vo tW 1 ((olds σ.ws).length) ((olds σ.ws).map b64), mapR γ.mb (mk σ.ws γ.g), fam (dI σ.ws γ.g), factR (Dgood σ)]) ?_ ?_
  ·skip
   refine tR ?_
   refine tM rfl rfl ?_
   refine At.val (Val.bin rfl rfl rfl) rfl rfl rfl ?_
   refine tE ?_
   refine At.cond rfl (fun h2 => ?_) (fun h2 => ?_)
   ·skip
    try simp only [hasB, isSizeB, Bool.not_eq_true', Bool.not_eq_false', bne_iff_ne, ne_eq, bne_eq_false_iff_eq, beq_iff_eq, beq_eq_false_iff_ne, decide_eq_true_eq, decide_eq_false_iff_not, gt_iff_lt, ge_iff_le] at h2
    refine At.region ?_
    refine tM rfl rfl ?_
    refine tM rfl rfl ?_
    refine At.val (Val.nilCheck rfl) rfl rfl rfl ?_
    refine At.val (Val.field 0 rfl fo_85_0 rfl) rfl rfl rfl ?_
    refine At.val (Val.loadDbt (i := 3) Tryd.isAgg83 rfl rfl hk hn rfl) rfl rfl rfl ?_
    refine At.val (Val.lenDbt (i := 3) rfl hk hn Tryd.underlying83 rfl) rfl rfl rfl ?_
    refine At.val (Val.addI rfl rfl (by omega) (by omega)) rfl rfl rfl ?_
    refine At.val (Val.addI rfl rfl (by omega) (by omega)) rfl rfl rfl ?_
    refine tA rfl rfl ?_
    refine tE ?_
    exact At.meets (c + ((wd.news.length : Int) + 1)) (pick_meet hs (by omega) (by omega) (by omega) (by omega)) (Sub.cons rfl (Sub.cons rfl (Sub.cons rfl (Sub.cons rfl Sub.nil)))) (List.Perm.refl _)
   ·skip
    try simp only [hasB, isSizeB, Bool.not_eq_true', Bool.not_eq_false', bne_iff_ne, ne_eq, bne_eq_false_iff_eq, beq_iff_eq, beq_eq_false_iff_ne, decide_eq_true_eq, decide_eq_false_iff_not, gt_iff_lt, ge_iff_le] at h2
    refine At.skipC ?_
    refine At.thenN ?_
    exact At.meets c (pick_meet hs (by omega) (by omega) (by omega) (by omega)) (Sub.cons rfl (Sub.cons rfl (Sub.cons rfl (Sub.cons rfl Sub.nil)))) (List.Perm.refl _)
  ·skip
   intro e hs
   refine At.seq ?_
   refine tR ?_
   refine tM rfl rfl ?_
   refine At.val (Val.bin rfl rfl rfl) rfl rfl rfl ?_
   refine tE ?_
   refine At.cond rfl (fun h3 => ?_) (fun h3 => ?_)
   ·skip
    try simp only [hasB, isSizeB, Bool.not_eq_true', Bool.not_eq_false', bne_iff_ne, ne_eq, bne_eq_false_iff_eq, beq_iff_eq, beq_eq_false_iff_ne, decide_eq_true_eq, decide_eq_false_iff_not, gt_iff_lt, ge_iff_le] at h3
    refine tR ?_
    refine At.val (Val.loadOld Tryd.isAgg32 rfl hcd hfd) rfl rfl rfl ?_
    refine At.val (Val.nilCheck rfl) rfl rfl rfl ?_
    refine At.val (Val.field 0 rfl fo_92_0 rfl) rfl rfl rfl ?_
    refine At.val (Val.load (i := 0) Tryd.isAgg83 rfl rfl rfl) rfl rfl rfl ?_
    refine tM rfl rfl ?_
    refine At.val (Val.quoI rfl rfl (by omega) (by omega) (by decide)) rfl rfl rfl ?_
    rw [show 8 * (k : Int) / 8 = (k : Int) from by omega]
    refine At.val (Val.indexRow (i := 1) k (by omega) Tryd.underlying83 Tryd.sizeOf65 rfl rfl rfl (by omega) (by rw [olds_length]; omega)) rfl rfl rfl ?_
    refine At.val (Val.loadRow (i := 1) Tryd.isAgg65 rfl rfl (by rw [List.getElem?_map, olds_at hk]; rfl)) rfl rfl rfl ?_
    refine tA rfl rfl ?_
    refine tE ?_
    refine At.retC ?_
    refine At.thenR ?_
    refine At.ret1 (.inl rfl) rfl rfl rfl (fun w hw => ?_)
    exact ⟨congrArg (fun z => Ending.returned (b64 z)) (pick_old (by omega) hs.1).symm, retK (F := []) hw⟩
   ·skip
    try simp only [hasB, isSizeB, Bool.not_eq_true', Bool.not_eq_false', bne_iff_ne, ne_eq, bne_eq_false_iff_eq, beq_iff_eq, beq_eq_false_iff_ne, decide_eq_true_eq, decide_eq_false_iff_not, gt_iff_lt, ge_iff_le] at h3
    refine At.skipC ?_
    refine At.thenN ?_
    refine At.seq ?_
    obtain ⟨z, hz⟩ : ∃ z, wd.news[(e - 1).toNat]? = some z := ⟨_, List.getElem?_eq_getElem (by omega)⟩
    refine At.dbtSome 3 rfl hk hn (fun b o c2 hv2 => ?_)
    refine At.region ?_
    refine tM rfl rfl ?_
    refine At.val (Val.nilCheck rfl) rfl rfl rfl ?_
    refine At.val (Val.field 0 rfl fo_85_0 rfl) rfl rfl rfl ?_
    refine At.val (Val.loadDbt (i := 3) Tryd.isAgg83 rfl rfl hk hn rfl) rfl rfl rfl ?_
    refine tM rfl rfl ?_
    refine At.val (Val.subI rfl rfl (by omega) (by omega)) rfl rfl rfl ?_
    rw [hv2]
    refine At.val (Val.indexSl (o + (e - 1).toNat) (by omega) Tryd.underlying83 Tryd.sizeOf65 rfl rfl (by omega) (by omega)) rfl rfl rfl ?_
    refine At.val (Val.loadNews (i := 3) Tryd.isAgg65 rfl rfl hk hn hv2 rfl hz) rfl rfl rfl ?_
    refine tA rfl rfl ?_
    refine tE ?_
    refine At.retC ?_
    refine At.ret1 (.inl rfl) rfl rfl rfl (fun w hw => ?_)
    exact ⟨congrArg (fun z => Ending.returned (b64 z)) (pick_new (by omega) hs.1 hz).symm, retK (F := []) hw⟩
end Go.Proofs.YtpihenmdkoojdaaDoor
set_option linter.unusedVariables false
set_option linter.unusedSimpArgs false
namespace Go.Proofs.YtpihenmdkoojdaaDoor
open Go Go.Wk
theorem bytes_k (p : Nat) (γ : Gh) (σ : Ds) (fid : FuncId) (caps : List Value) (pk : Nat → Nat → BitVec 64) (w : World) (hcall : ∀ args w, (callFunc fid args).run Tryd.prog w = .ok (.enter fid args) w) (hp : ∀ w', Mod (feet [Dev p γ σ]) w w' → (Dev p γ σ).holds w' → ∀ (K k : Nat) (wd : Wd), (dk σ.ws)[K]? = some k → σ.ws[k]? = some wd → wd.news ≠ [] → Upd Tryd.prog fid ([.int .i64 (K : Int), .int .i64 (8 * (k : Int)), .pointer (some ⟨(γ.g k).1, 0, none⟩)] ++ caps) (Dev p γ σ) (b64 (pk K k)) (Dev p γ σ) w') (hd : (Dev p γ σ).holds w) :
    RowK Tryd.prog 37 [.pointer (some ⟨p, 0, none⟩), .func (.func fid) #[] caps.toArray] (Dev p γ σ) 5 1 (wbytes (picked σ.ws pk)).length ((wbytes (picked σ.ws pk)).map bv) w := by
 refine enterV hd Tryd.func37 rfl Tryd.ntmps37 rfl ?_
 unfold devL
 have hgd := Dev.good hd
 have hln := hgd.len
 have hps := hgd.pos
 have hdl : (dk σ.ws).length ≤ σ.ws.length := Nat.le_trans (List.length_filter_le _ _) (by rw [List.length_range]; exact Nat.le_refl _)
 simp only [envOf]
 refine tR ?_
 refine tA rfl rfl ?_
 refine tE ?_
 refine tR ?_
 refine tM rfl rfl ?_
 refine At.callKS (devL p γ σ) rfl (fun w hw hr => size_k _ _ _ w hr) Tryd.call31 rfl rfl ?_
 rw [show 8 * (σ.ws.length : Int) = (((8 * σ.ws.length : Nat)) : Int) from by omega]
 refine At.makeRowB (n := (8 * σ.ws.length)) Tryd.underlying38 info_5 rfl rfl rfl rfl rfl (by omega) rfl (fun v1 => ?_)
 rw [← wbytes_zero]
 refine At.rowSome (i := 0) rfl (by rw [wbytes_length, List.length_replicate]; omega) (fun b2 c3 hv4 => ?_)
 subst hv4
 refine At.rowCapD (i := 0) rfl (fun hcap => ?_)
 rw [wbytes_length, List.length_replicate] at hcap ⊢
 refine At.sink5 ?_
 refine tA rfl rfl ?_
 refine tE ?_
 refine At.seq ?_
 refine tR ?_
 refine tM rfl rfl ?_
 refine At.val (Val.nilCheck rfl) rfl rfl rfl ?_
 refine At.val (Val.field 0 rfl fo_92_0 rfl) rfl rfl rfl ?_
 refine At.val (Val.load (i := 0) Tryd.isAgg83 rfl rfl rfl) rfl rfl rfl ?_
 refine At.val (Val.lenRow (i := 1) Tryd.underlying83 rfl rfl) rfl rfl rfl ?_
 refine tM rfl rfl ?_
 refine tE ?_
 refine At.block ?_
 skip
 refine At.loop (σ := Nat) (fun k => k ≤ σ.ws.length) (fun k => [(0, .pointer (some ⟨p, 0, none⟩)), (1, .func (.func fid) #[] caps.toArray), (5, (.slice (some ⟨b2, 0, none⟩) ((8 * σ.ws.length)) c3)), (16, γ.vo), (17, .int .i64 (σ.ws.length : Int)), (18, .int .i64 (k : Int))]) (fun k => [blk p tDv [γ.vo, .map (some γ.mb), .int .i64 (σ.steps : Int), .bool σ.armed, .int .i64 (σ.left : Int)], wrow tW γ.vo (olds σ.ws), mapR γ.mb (mk σ.ws γ.g), fam (dI σ.ws γ.g), factR (Dgood σ), brow 5 (.slice (some ⟨b2, 0, none⟩) ((8 * σ.ws.length)) c3) (wbytes ((olds σ.ws).take k ++ List.replicate ((olds σ.ws).length - k) 0))]) (fun k => σ.ws.length - k) 0 (Nat.zero_le _) (Sub.cons rfl (Sub.cons rfl (Sub.cons rfl (Sub.cons rfl (Sub.cons (congrArg (fun z => some (Value.int IntKind.i64 z)) (by rw [olds_length])) (Sub.cons rfl Sub.nil)))))) (by rw [List.take_zero, List.nil_append, Nat.sub_zero, olds_length, brow, wbytes_length, List.length_replicate]) ?_
 intro k hs
 have hl1 : ((olds σ.ws).take k ++ List.replicate ((olds σ.ws).length - k) 0).length = σ.ws.length := by rw [List.length_append, List.length_take, List.length_replicate, olds_length]; omega
 refine tR ?_
 refine At.val (Val.bin rfl rfl rfl) rfl rfl rfl ?_
 refine tE ?_
 refine At.seq ?_
 refine At.cond rfl (fun h5 => ?_) (fun h5 => ?_)
 ·skip
  try simp only [hasB, isSizeB, Bool.not_eq_true', Bool.not_eq_false', bne_iff_ne, ne_eq, bne_eq_false_iff_eq, beq_iff_eq, beq_eq_false_iff_ne, decide_eq_true_eq, decide_eq_false_iff_not, gt_iff_lt, ge_iff_le] at h5
  have hk0 : k < σ.ws.length := by omega
  obtain ⟨wd, hk⟩ : ∃ wd, σ.ws[k]? = some wd := ⟨_, List.getElem?_eq_getElem hk0⟩
  refine At.skipC ?_
  refine At.thenN ?_
  refine At.seq ?_
  refine At.block ?_
  refine tR ?_
  refine tM rfl rfl ?_
  refine At.val (Val.indexRow (i := 1) k (by omega) Tryd.underlying83 Tryd.sizeOf65 rfl rfl rfl (by omega) (by rw [olds_length]; omega)) rfl rfl rfl ?_
  refine At.val (Val.loadRow (i := 1) Tryd.isAgg65 rfl rfl (by rw [List.getElem?_map, olds_at hk]; rfl)) rfl rfl rfl ?_
  refine tA rfl rfl ?_
  refine tA rfl rfl ?_
  refine tE ?_
  refine At.region ?_
  refine tM rfl rfl ?_
  refine tM rfl rfl ?_
  refine At.val (Val.mulI rfl rfl (by omega) (by omega)) rfl rfl rfl ?_
  refine At.val (Val.cutSl (8 * k) (8 * σ.ws.length) (8 * k) (8 * σ.ws.length - 8 * k) (c3 - 8 * k) Tryd.underlying38 Tryd.sizeOf5 rfl ⟨_, _, rfl, by omega, by omega⟩ rfl (by omega) hcap (by rw [if_neg (by omega)]; omega) rfl rfl) rfl rfl rfl ?_
  refine tM rfl rfl ?_
  refine At.call1 5 rfl (fun w hw hr => putW_r b2 (8 * k) (8 * σ.ws.length - 8 * k) (c3 - 8 * k) (8 * σ.ws.length) c3 (wbytes ((olds σ.ws).take k ++ List.replicate ((olds σ.ws).length - k) 0)) (wd.old) w (by omega) (by rw [wbytes_length, hl1]; omega) hr) Tryd.call58 rfl rfl ?_
  simp only [sc0, scS]
  refine At.nil ?_
  refine At.blkN ?_
  refine At.thenN ?_
  refine At.region ?_
  first | refine At.val (Val.addI rfl rfl (by omega) (by omega)) rfl rfl rfl ?_ | refine At.val (Val.bin rfl rfl rfl) rfl rfl rfl ?_
  refine tM rfl rfl ?_
  refine tE ?_
  exact At.again (k + 1) (show k + 1 ≤ _ by omega) (by omega) (Sub.cons rfl (Sub.cons rfl (Sub.cons rfl (Sub.cons rfl (Sub.cons rfl (Sub.cons (congrArg (fun z => some (Value.int IntKind.i64 z)) (by omega)) Sub.nil)))))) (by rw [put8_set _ (by omega), take_set_zero (olds_at hk)])
 ·skip
  try simp only [hasB, isSizeB, Bool.not_eq_true', Bool.not_eq_false', bne_iff_ne, ne_eq, bne_eq_false_iff_eq, beq_iff_eq, beq_eq_false_iff_ne, decide_eq_true_eq, decide_eq_false_iff_not, gt_iff_lt, ge_iff_le] at h5
  obtain rfl : k = σ.ws.length := by omega
  refine At.exitC ?_
  refine At.thenX ?_
  refine At.thenX ?_
  refine At.blkX ?_
  refine At.thenN ?_
  refine At.seq ?_
  refine tR ?_
  refine tM rfl rfl ?_
  refine At.callRKS (devL p γ σ) rfl (fun w hw hr => places_k p γ σ w hr) Tryd.call46 rfl rfl (fun v6 => ?_)
  refine At.sink5 ?_
  refine At.val (Val.lenRow (i := 5) Tryd.underlying24 rfl rfl) rfl rfl rfl ?_
  refine tM rfl rfl ?_
  refine tE ?_
  refine At.block ?_
  skip
  refine At.loop (σ := Nat) (fun K => K ≤ (dk σ.ws).length) (fun K => [(0, .pointer (some ⟨p, 0, none⟩)), (1, .func (.func fid) #[] caps.toArray), (5, (.slice (some ⟨b2, 0, none⟩) ((8 * σ.ws.length)) c3)), (31, v6), (32, .int .i64 ((dk σ.ws).length : Int)), (33, .int .i64 (K : Int))]) (fun K => [blk p tDv [γ.vo, .map (some γ.mb), .int .i64 (σ.steps : Int), .bool σ.armed, .int .i64 (σ.left : Int)], wrow tW γ.vo (olds σ.ws), mapR γ.mb (mk σ.ws γ.g), fam (dI σ.ws γ.g), factR (Dgood σ), rowR v6 3 1 (dkeys σ.ws).length ((dkeys σ.ws).map (Value.int .i64)), brow 5 (.slice (some ⟨b2, 0, none⟩) ((8 * σ.ws.length)) c3) (wbytes (pickK σ.ws pk K))]) (fun K => (dk σ.ws).length - K) 0 (Nat.zero_le _) (Sub.cons rfl (Sub.cons rfl (Sub.cons rfl (Sub.cons rfl (Sub.cons (congrArg (fun z => some (Value.int IntKind.i64 z)) (by rw [dkeys, List.length_map])) (Sub.cons rfl Sub.nil)))))) (by rw [List.take_of_length_le (by rw [olds_length]; exact Nat.le_refl _), olds_length, Nat.sub_self, List.replicate_zero, List.append_nil]; exact List.Perm.refl _) ?_
  intro K hs
  refine tR ?_
  refine At.val (Val.bin rfl rfl rfl) rfl rfl rfl ?_
  refine tE ?_
  refine At.seq ?_
  refine At.cond rfl (fun h7 => ?_) (fun h7 => ?_)
  ·skip
   try simp only [hasB, isSizeB, Bool.not_eq_true', Bool.not_eq_false', bne_iff_ne, ne_eq, bne_eq_false_iff_eq, beq_iff_eq, beq_eq_false_iff_ne, decide_eq_true_eq, decide_eq_false_iff_not, gt_iff_lt, ge_iff_le] at h7
   have hK : K < (dk σ.ws).length := by omega
   obtain ⟨k, hkK⟩ : ∃ k, (dk σ.ws)[K]? = some k := ⟨_, List.getElem?_eq_getElem hK⟩
   obtain ⟨wd, hk, hn⟩ := mem_dk.1 (List.mem_of_getElem? hkK)
   have hk0 := (List.getElem?_eq_some_iff.1 hk).1
   refine At.skipC ?_
   refine At.thenN ?_
   refine At.seq ?_
   refine At.block ?_
   refine tR ?_
   refine tM rfl rfl ?_
   refine At.val (Val.indexRow (i := 5) K (by omega) Tryd.underlying24 Tryd.sizeOf3 rfl rfl rfl (by omega) (by rw [dkeys, List.length_map]; omega)) rfl rfl rfl ?_
   refine At.val (Val.loadRow (i := 5) (u := .int .i64 (8 * (k : Int))) Tryd.isAgg3 rfl rfl (by rw [List.getElem?_map, dkeys, List.getElem?_map, hkK]; rfl)) rfl rfl rfl ?_
   refine tA rfl rfl ?_
   refine tA rfl rfl ?_
   refine tE ?_
   refine At.tail 13 rfl (by decide +kernel) ?_
   simp only [List.take_succ_cons, List.take_zero, List.drop_succ_cons, List.drop_zero]
   refine qM rfl rfl ?_
   refine qM rfl rfl ?_
   refine QAt.val (Val.cutSl (8 * k) (8 * σ.ws.length) (8 * k) (8 * σ.ws.length - 8 * k) (c3 - 8 * k) Tryd.underlying38 Tryd.sizeOf5 rfl ⟨_, _, rfl, by omega, by omega⟩ rfl (by omega) hcap (by rw [if_neg (by omega)]; omega) rfl rfl) rfl rfl rfl ?_
   refine qM rfl rfl ?_
   refine qM rfl rfl ?_
   refine qM rfl rfl ?_
   refine qM rfl rfl ?_
   refine QAt.val (Val.nilCheck rfl) rfl rfl rfl ?_
   refine QAt.val (Val.field 1 rfl fo_92_1 rfl) rfl rfl rfl ?_
   refine QAt.val (Val.load (i := 0) Tryd.isAgg90 rfl rfl rfl) rfl rfl rfl ?_
   refine qM rfl rfl ?_
   refine QAt.val (Val.look (i := 2) Tryd.underlying90 Tryd.underlying3 Tryd.zeroValue82 rfl rfl rfl) rfl rfl rfl ?_
   rw [mk_at, mkN_some hk hn]
   refine QAt.callVKS (devL p γ σ) (caps := caps) rfl rfl (fun w hw hr => hp w hw.mod hr K k wd hkK hk hn) hcall rfl rfl ?_
   refine QAt.fin ?_
   refine At.call1 6 rfl (fun w hw hr => putW_r b2 (8 * k) (8 * σ.ws.length - 8 * k) (c3 - 8 * k) (8 * σ.ws.length) c3 (wbytes (pickK σ.ws pk K)) (pk K k) w (by omega) (by rw [wbytes_length, pickK_length]; omega) hr) Tryd.call58 rfl rfl ?_
   simp only [sc0, scS]
   refine At.nil ?_
   refine At.blkN ?_
   refine At.thenN ?_
   refine At.region ?_
   first | refine At.val (Val.addI rfl rfl (by omega) (by omega)) rfl rfl rfl ?_ | refine At.val (Val.bin rfl rfl rfl) rfl rfl rfl ?_
   refine tM rfl rfl ?_
   refine tE ?_
   exact At.again (K + 1) (show K + 1 ≤ _ by omega) (by omega) (Sub.cons rfl (Sub.cons rfl (Sub.cons rfl (Sub.cons rfl (Sub.cons rfl (Sub.cons (congrArg (fun z => some (Value.int IntKind.i64 z)) (by omega)) Sub.nil)))))) (by rw [put8_set _ (by rw [pickK_length]; omega), pickK_succ hkK])
  ·skip
   try simp only [hasB, isSizeB, Bool.not_eq_true', Bool.not_eq_false', bne_iff_ne, ne_eq, bne_eq_false_iff_eq, beq_iff_eq, beq_eq_false_iff_ne, decide_eq_true_eq, decide_eq_false_iff_not, gt_iff_lt, ge_iff_le] at h7
   obtain rfl : K = (dk σ.ws).length := by omega
   refine At.exitC ?_
   refine At.thenX ?_
   refine At.thenX ?_
   refine At.blkX ?_
   refine At.thenN ?_
   refine tR ?_
   refine tM rfl rfl ?_
   refine tA rfl rfl ?_
   refine tE ?_
   refine At.retC ?_
   refine At.ret1 (.inl rfl) rfl rfl rfl (fun w hw => ?_)
   exact ⟨_, rfl, retRK (F := []) ((hw.drop ((List.Sublist.refl _).cons _ |>.cons_cons _ |>.cons_cons _ |>.cons_cons _ |>.cons_cons _ |>.cons_cons _)).perm (List.perm_middle (l₁ := [_, _, _, _, _]) (l₂ := [])))⟩
def viewWs (ws : List Wd) : List (BitVec 64) := ws.map nowW
theorem pickK_at {ws : List Wd} {pk : Nat → Nat → BitVec 64} {k : Nat} {w : Wd} (hk : ws[k]? = some w) : ∀ K, (∀ J, J < K → (dk ws)[J]? ≠ some k) → (pickK ws pk K)[k]? = some w.old
  | 0, _ => olds_at hk
  | K + 1, h => by
    cases hj : (dk ws)[K]? with
    | none => unfold pickK; rw [hj]; exact pickK_at hk K (fun J hJ => h J (by omega))
    | some j =>
      rw [pickK_succ hj]
      have hne : j ≠ k := fun e => h K (by omega) (e ▸ hj)
      rw [List.getElem?_set_ne hne]
      exact pickK_at hk K (fun J hJ => h J (by omega))
theorem dk_inj {ws : List Wd} {I J k : Nat} (h : (dk ws)[I]? = some k) (h' : (dk ws)[J]? = some k) : I = J := by
  have hr := dk_rising ws
  have h1 := List.getElem?_eq_some_iff.1 h
  have h2 := List.getElem?_eq_some_iff.1 h'
  rcases Nat.lt_trichotomy I J with hlt | hlt | hlt
  · have := List.pairwise_iff_getElem.1 hr I J h1.1 h2.1 hlt; rw [h1.2, h2.2] at this; omega
  · exact hlt
  · have := List.pairwise_iff_getElem.1 hr J I h2.1 h1.1 hlt; rw [h1.2, h2.2] at this; omega
theorem pickK_hit {ws : List Wd} {pk : Nat → Nat → BitVec 64} {K k : Nat} (hK : (dk ws)[K]? = some k) : ∀ n, K < n → n ≤ (dk ws).length → (pickK ws pk n)[k]? = some (pk K k)
  | 0, h, _ => by omega
  | n + 1, h, hn => by
    obtain ⟨j, hj⟩ : ∃ j, (dk ws)[n]? = some j := ⟨_, List.getElem?_eq_getElem (by omega)⟩
    rw [pickK_succ hj]
    by_cases e : n = K
    · subst e
      have : j = k := Option.some.inj (hj.symm.trans hK)
      subst this
      obtain ⟨w, hw, _⟩ := mem_dk.1 (List.mem_of_getElem? hj)
      rw [List.getElem?_set_self (by rw [pickK_length]; exact (List.getElem?_eq_some_iff.1 hw).1)]
    · have hne : j ≠ k := fun e2 => e (dk_inj (e2 ▸ hj) hK)
      rw [List.getElem?_set_ne hne]
      exact pickK_hit hK n (by omega) (by omega)
/-- Word by word: a word that isn't in doubt is its old one; the K-th in doubt is what is picked. -/
theorem picked_old {ws : List Wd} {pk : Nat → Nat → BitVec 64} {k : Nat} {w : Wd} (hk : ws[k]? = some w) (hn : w.news = []) : (picked ws pk)[k]? = some w.old :=
  pickK_at hk _ fun J _ h => by
    obtain ⟨u, hu, hun⟩ := mem_dk.1 (List.mem_of_getElem? h)
    rw [hk] at hu; cases hu; exact hun hn
theorem picked_new {ws : List Wd} {pk : Nat → Nat → BitVec 64} {K k : Nat} (hK : (dk ws)[K]? = some k) : (picked ws pk)[k]? = some (pk K k) := pickK_hit hK _ (List.getElem?_eq_some_iff.1 hK).1 (Nat.le_refl _)
theorem picked_length (ws : List Wd) (pk : Nat → Nat → BitVec 64) : (picked ws pk).length = ws.length := pickK_length ws pk _
theorem dk_of {ws : List Wd} {k : Nat} {w : Wd} (hk : ws[k]? = some w) (hn : w.news ≠ []) : ∃ K : Nat, (dk ws)[K]? = some k := List.getElem?_of_mem (mem_dk.2 ⟨w, hk, hn⟩)
theorem picked_view (ws : List Wd) : picked ws (pkV ws) = viewWs ws := by
  apply List.ext_getElem?
  intro k
  unfold viewWs
  rw [List.getElem?_map]
  cases hk : ws[k]? with
  | none => rw [List.getElem?_eq_none (by rw [picked_length]; exact List.getElem?_eq_none_iff.1 hk)]; rfl
  | some w =>
    by_cases hn : w.news = []
    · rw [picked_old hk hn]; show _ = some (nowW w); rw [now_old hn]
    · obtain ⟨K, hK⟩ := dk_of hk hn
      rw [picked_new hK, pkV_at hk]; rfl
theorem view_k (p : Nat) (γ : Gh) (σ : Ds) (w : World) (hd : (Dev p γ σ).holds w) :
    RowK Tryd.prog 13 [.pointer (some ⟨p, 0, none⟩)] (Dev p γ σ) 5 1 (wbytes (viewWs σ.ws)).length ((wbytes (viewWs σ.ws)).map bv) w := by
 refine enterVc hd Tryd.func13 rfl Tryd.ntmps13 rfl ?_
 have hgd := Dev.good hd
 simp only [envOf]
 refine tR ?_
 refine tA rfl rfl ?_
 refine tE ?_
 refine tR ?_
 refine tM rfl rfl ?_
 refine At.callRK 0 rfl (fun w hw hr => bytes_k p γ σ 38 [] (pkV σ.ws) w Tryd.call38 (fun w' _ hd' K k wd hK hk hn => by rw [pkV_at hk]; exact viewCl_k p γ σ k wd _ _ w' hk hn hd') hr) Tryd.call37 rfl rfl (fun v1 => ?_)
 refine tA rfl rfl ?_
 refine tE ?_
 refine At.retC ?_
 refine At.ret1 (.inl rfl) rfl rfl rfl (fun w hw => ?_)
 rw [picked_view] at hw
 exact ⟨_, rfl, hw⟩
theorem rep_none {w0 w : World} {S : Nat → Prop} (h : Mod S w0 w) : Rep w0 S [] w := ⟨by simp, by simp, by simp, h⟩
theorem off_boxes {w0 w w' : World} {S : Nat → Prop} {p : Nat} {γ : Gh} {σ : Ds} {a b T U : Nat} {x y : Value} (hw : Rep w0 S [blk a T [x], blk b U [y], Dev p γ σ] w) (hm : Mod (feet [Dev p γ σ]) w w') :
    w'.cell? ⟨a, 0, none⟩ = some x ∧ w'.cell? ⟨b, 0, none⟩ = some y ∧ ¬ feet [Dev p γ σ] a ∧ ¬ feet [Dev p γ σ] b := by
  have hs := List.pairwise_cons.1 hw.sep
  have hs2 := List.pairwise_cons.1 hs.2
  have ha : ¬ feet [Dev p γ σ] a := fun ⟨r, hr, hb⟩ => by rw [List.mem_singleton.1 hr] at hb; exact hs.1 (Dev p γ σ) (by simp) a rfl hb
  have hb : ¬ feet [Dev p γ σ] b := fun ⟨r, hr, hb⟩ => by rw [List.mem_singleton.1 hr] at hb; exact hs2.1 (Dev p γ σ) (by simp) b rfl hb
  have h1 : w.cell? ⟨a, 0, none⟩ = some x := (hw.blk (i := 0) rfl).cell 0
  have h2 : w.cell? ⟨b, 0, none⟩ = some y := (hw.blk (i := 1) rfl).cell 0
  exact ⟨(rep_none hm).oldCell h1 ha, (rep_none hm).oldCell h2 hb, ha, hb⟩
theorem crash_k (p : Nat) (γ : Gh) (σ : Ds) (vc : Value) (cs : List Int) (w : World) (hv : RdI w vc cs) (ho : Off vc (cs.map (Value.int .i64)) (feet [Dev p γ σ])) (hd : (Dev p γ σ).holds w) :
    RowK Tryd.prog 23 [.pointer (some ⟨p, 0, none⟩), vc] (Dev p γ σ) 5 1 (wbytes (picked σ.ws (pkC σ.ws cs))).length ((wbytes (picked σ.ws (pkC σ.ws cs))).map bv) w := by
 refine enterVc hd Tryd.func23 rfl Tryd.ntmps23 rfl ?_
 have hgd := Dev.good hd
 simp only [envOf]
 refine tR ?_
 refine At.box rfl rfl rfl (fun b1 => ?_)
 have hvone := rd_one hv
 refine At.box rfl hvone rfl (fun b9 => ?_)
 refine tA rfl rfl ?_
 refine tE ?_
 refine tR ?_
 refine At.val (Val.load (i := 1) Tryd.isAgg32 rfl rfl rfl) rfl rfl rfl ?_
 refine At.val (Val.makeFunc2 rfl rfl) rfl rfl rfl ?_
 refine At.callRK 2 rfl (fun w hw hr => bytes_k p γ σ 45 [.pointer (some ⟨b9, 0, none⟩), .pointer (some ⟨b1, 0, none⟩)] (pkC σ.ws cs) w Tryd.call45 (fun w' hm hd' K k wd hK hk hn => by
   obtain ⟨h1, h2, h3, h4⟩ := off_boxes hw hm
   have hKl := (List.getElem?_eq_some_iff.1 hK).1
   have hdl : (dk σ.ws).length ≤ σ.ws.length := Nat.le_trans (List.length_filter_le _ _) (by rw [List.length_range]; exact Nat.le_refl _)
   rw [pkC_at hk]
   exact crashCl_k p γ σ k K b9 b1 wd vc cs w' hk hn (by have := hgd.len; omega) h1 h2 h3 h4 ((hv.keep hw ho).keep (rep_none hm) ho) ho hd') hr) Tryd.call37 rfl rfl (fun v2 => ?_)
 refine tA rfl rfl ?_
 refine tE ?_
 refine At.retC ?_
 refine At.ret1 (.inl rfl) rfl rfl rfl (fun w hw => ?_)
 exact ⟨_, rfl, hw.drop (List.Sublist.refl _ |>.cons _ |>.cons _ |>.cons_cons _)⟩
end Go.Proofs.YtpihenmdkoojdaaDoor
set_option linter.unusedVariables false
set_option linter.unusedSimpArgs false
namespace Go.Wk
open Go Go.ChangeShapes Go.WideShapes Go.ChangeAt Go.RowKit
abbrev Nt := Int × Int × BitVec 64
section
variable {P : Program} {Γ : Ctx} {E : Env} {H : List Res} {ops : Array Oper} {Q : Exit → Act → World → Prop} {rest : List Oper} {ψ : Act → Prop}
  {d : Nat} {dst : Option Tmp} {g : Option (Nat × Bool)} {ty : TypeId} {pos : String} {after : Array Edge} {x y z : Operand} {v u : Value}
theorem Rd.off {w : World} {sz n : Nat} {xs : List Value} (h : Rd w v sz n xs) {S : Nat → Prop} (hS : ∀ b, S b → w.heap.size ≤ b) : Off v xs S := fun hne b o s n' c hv hb => by
  obtain ⟨A, c', rfl, h2, _⟩ := h
  have hl : 0 < xs.length := List.length_pos_iff.2 hne
  obtain ⟨b', o', e, hc⟩ := h2 0 _ (List.getElem?_eq_getElem hl)
  simp only [Value.slice.injEq] at hv
  rw [hv.1] at e
  simp only [Option.some.injEq, Addr.mk.injEq] at e
  obtain ⟨rfl, _, _⟩ := e
  have := block_lt_of_cell hc
  have := hS _ hb
  simp only at *; omega
theorem Rep.newFoot {w0 w : World} {H : List Res} {r : Res} (hw : Rep w0 (fun _ => False) H w) (hr : r ∈ H) : ∀ b, feet [r] b → w0.heap.size ≤ b := fun b ⟨q, hq, hb⟩ => by
  rw [List.mem_singleton.1 hq] at hb
  exact (hw.mine r hr b hb).elim (fun h => h) (fun h => h.elim)
end
section
variable {H : Type} {enc : TypeId × Value → H} {P : Program} {W : World} {r : Reach} {base b0 : Nat} {sp : Nat → Bool} {held : Bool}
theorem choose_list' {α : Type} {Q : Nat → α → Prop} : ∀ n : Nat, (∀ j, j < n → ∃ z, Q j z) → ∃ zs : List α, zs.length = n ∧ ∀ j z, zs[j]? = some z → Q j z
  | 0, _ => ⟨[], rfl, fun j z h => by simp at h⟩
  | n + 1, h => by
    obtain ⟨zs, hl, hz⟩ := choose_list' n (fun j hj => h j (by omega))
    obtain ⟨z, hq⟩ := h n (by omega)
    refine ⟨zs ++ [z], by simp [hl], fun j y hy => ?_⟩
    rcases Nat.lt_or_ge j n with hj | hj
    · rw [List.getElem?_append_left (by omega)] at hy; exact hz j y hy
    · have hj' : j < (zs ++ [z]).length := (List.getElem?_eq_some_iff.1 hy).1
      rw [List.length_append, hl] at hj'
      obtain rfl : n = j := by simp at hj'; omega
      rw [List.getElem?_append_right (by omega), hl, Nat.sub_self] at hy
      obtain rfl := Option.some.inj hy
      exact hq
def Fits (z : Int) : Prop := -9223372036854775808 ≤ z ∧ z ≤ 9223372036854775807
theorem ints_of {t e : TypeId} {v : Value} {fuel : Nat} {x : DataW H × List MemPlace} (hu : P.underlying t = some (.slice e)) (he : P.underlying e = some (.int .i64)) (hc : P.cellsOf e = 1) (hby : P.bytesOf e = 8)
    (hok : v = .slice none 0 0 ∨ ∃ b o n c, v = .slice (some ⟨b, o, none⟩) n c ∧ n ≤ c) (hf : DataW.trod enc P W b0 sp held fuel t [v] = some x) (hw : (DataW.weights P t x.1).all (· ≤ reachBytes) = true) :
    ∃ L : List Int, RdI W v L ∧ L.length ≤ 17592186044416 ∧ ∀ z ∈ L, Fits z := by
  rcases hok with rfl | ⟨b, o, n, c, rfl, hnc⟩
  · exact ⟨[], Rd.nil W 1, by simp, by simp⟩
  · rcases open_ints hu he hc hf with ⟨h0, _⟩ | ⟨a, len, cap, zs, h0, _, hl, _, hz, hx, hcell, hwf⟩
    · simp at h0
    · simp only [List.cons.injEq, Value.slice.injEq, Option.some.injEq, and_true] at h0
      obtain ⟨rfl, rfl, rfl⟩ := h0
      have hlen : n ≤ zs.length := by rw [hz]; split <;> omega
      have hln : (zs.take n).length = n := by rw [List.length_take]; omega
      have hxe : x.1 = _ := congrArg Prod.fst hx
      have hdw : zs.length * 8 ≤ reachBytes := by
        have hall := List.all_eq_true.1 hw
        rw [hxe] at hall
        unfold DataW.weights at hall
        rw [hu] at hall
        have := hall _ (List.mem_cons_self ..)
        simp only [decide_eq_true_eq, hby, lits, List.length_map] at this
        rw [← List.length_append, List.take_append_drop] at this
        exact this
      refine ⟨zs.take n, ⟨some ⟨b, o, none⟩, c, by rw [hln], fun j u hj => ?_, by rw [List.length_map, Nat.mul_one], by rw [hln]; exact hnc, (fun h => by cases h), (fun _ a ha => by cases ha; rfl)⟩, ?_, fun z hm => ?_⟩
      · rw [List.getElem?_map, List.getElem?_take] at hj
        split at hj
        · rename_i hlt
          refine ⟨b, o, rfl, ?_⟩
          have h1 := hcell j (by omega)
          rw [Addr.add_off] at h1
          rw [h1]
          rw [List.getElem?_eq_getElem (show j < zs.length by omega)] at hj
          have hg : zs.getD j 0 = zs[j]'(by omega) := by simp [List.getD, show j < zs.length by omega]
          rw [hg]; exact hj
        · cases hj
      · rw [hln]; unfold reachBytes at hdw; omega
      · exact has64 (by simpa [Lit.wf, IntKind.has] using hwf z (List.mem_of_mem_take hm))
end
end Go.Wk
set_option linter.unusedVariables false
set_option linter.unusedSimpArgs false
namespace Go.Proofs.YtpihenmdkoojdaaDoor
open Go Go.Wk
def wordI (a : Int) (N : Nat) : Nat := (a % (N : Int)).toNat
/-- A note's step on a device that isn't dead. -/
def noteD (N : Nat) (σ : Ds) (c : Nt) : Ds :=
  if c.1 = 1 then (match σ.ws[wordI c.2.1 N]? with | some w => setD (stepD σ) (wordI c.2.1 N) (pushW w c.2.2) | none => σ)
  else if c.1 = 2 then flushK (stepD σ) (8 * (wordI c.2.1 N / 8)) 8
  else fenceD (stepD σ)
def run (N : Nat) (σ : Ds) (L : List Nt) : Ds := L.foldl (noteD N) σ
theorem dead_of {σ : Ds} (h : σ.armed = false) : deadB σ = false := by unfold deadB; rw [h]; rfl
def NewDevB (P : Program) (f : FuncId) (vs : List Value) (σ : Ds) (w : World) : Prop := Calls P f vs.toArray w fun e w' => ∃ p γ, e = .returned (.tuple #[.pointer (some ⟨p, 0, none⟩), .bool true]) ∧ Rep w (feet []) [Dev p γ σ] w'
theorem At.callNB {P : Program} {Γ : Ctx} {E : Env} {H : List Res} {ops : Array Oper} {Q : Exit → Act → World → Prop} {rest : List Oper} {d : Nat} {ty : TypeId} {pos : String} {after : Array Edge} {σ : Ds} {f : FuncId} {l : List Operand} {vs : List Value} {at_ : Array TypeId} (h : ∀ w, Rep Γ.w0 Γ.S H w → NewDevB P f vs σ w) (hc : ∀ args w, (callFunc f args).run P w = .ok (.enter f args) w) (hv : evs E l = some vs) (hn : Nat.blt d Γ.n = true)
    (c : ∀ p γ, At Γ ((d, .tuple #[.pointer (some ⟨p, 0, none⟩), .bool true]) :: E) (Dev p γ σ :: H) (wpList P ops Q rest)) :
    At Γ E H (wpList P ops Q ({ dst := some d, op := .call { callee := .value (.func f), args := l.toArray, argTypes := at_ }, type := ty, pos, after, guard := none } :: rest)) :=
  At.call hc hv hn fun w hw => (h w hw).mono fun e w' ⟨p, γ, he, hr⟩ => ⟨_, _, he, by
    have := Rep.frame (H0 := []) (F := H) (by simpa using hw) hr
    simpa using this, c p γ⟩
end Go.Proofs.YtpihenmdkoojdaaDoor
set_option linter.unusedVariables false
set_option linter.unusedSimpArgs false
namespace Go.Proofs.YtpihenmdkoojdaaDoor
open Go Go.Wk
theorem flushK_at {σ : Ds} {f k : Nat} {w : Wd} (h : σ.ws[k]? = some w) : ∀ j, ∃ m, (flushK σ f j).ws[k]? = some { w with mark := m } ∧ (f ≤ k → k < f + j → m = w.news.length) ∧ (¬ (f ≤ k ∧ k < f + j) → m = w.mark)
  | 0 => ⟨w.mark, h, fun h1 h2 => by omega, fun _ => rfl⟩
  | j + 1 => by
    obtain ⟨m, h1, h2, h3⟩ := flushK_at h j
    by_cases e : f + j = k
    · subst e
      rw [flushK_succ h1]
      exact ⟨w.news.length, by unfold setD; simp only; rw [List.getElem?_set_self (List.getElem?_eq_some_iff.1 h1).1]; rfl, fun _ _ => rfl, fun hn => absurd ⟨by omega, by omega⟩ hn⟩
    · cases hq : (flushK σ f j).ws[f + j]? with
      | none =>
        unfold flushK; rw [hq]
        exact ⟨m, h1, fun a b => h2 a (by omega), fun hn => h3 (fun ⟨a, b⟩ => hn ⟨a, by omega⟩)⟩
      | some u =>
        rw [flushK_succ hq]
        exact ⟨m, by unfold setD; simp only; rw [List.getElem?_set_ne e]; exact h1, fun a b => h2 a (by omega), fun hn => h3 (fun ⟨a, b⟩ => hn ⟨a, by omega⟩)⟩
theorem fenceD_at {σ : Ds} {k : Nat} {w : Wd} (h : σ.ws[k]? = some w) : (fenceD σ).ws[k]? = some (fenceW w) := by unfold fenceD; simp [h]
theorem setD_at {σ : Ds} {k j : Nat} {w u : Wd} (h : σ.ws[j]? = some w) (hne : k ≠ j) : (setD σ k u).ws[j]? = some w := by unfold setD; simp only; rw [List.getElem?_set_ne hne]; exact h
theorem setD_self {σ : Ds} {k : Nat} {w u : Wd} (h : σ.ws[k]? = some w) : (setD σ k u).ws[k]? = some u := by unfold setD; simp only; rw [List.getElem?_set_self (List.getElem?_eq_some_iff.1 h).1]
theorem take_succ_of_get {α : Type} {l : List α} {k : Nat} {x : α} (h : l[k]? = some x) : l.take (k + 1) = l.take k ++ [x] := by rw [List.take_add_one, h]; rfl
theorem zeroD_len (N : Nat) : (zeroD N).ws.length = N := by simp [zeroD, wz]
end Go.Proofs.YtpihenmdkoojdaaDoor
set_option linter.unusedVariables false
set_option linter.unusedSimpArgs false
namespace Go.Proofs.YtpihenmdkoojdaaDoor
open Go Go.Wk
def wordsL (l : List UInt8) (m : Nat) : List (BitVec 64) := (List.range m).map fun j => wdA l (8 * j)
theorem wordsL_length (l : List UInt8) (m : Nat) : (wordsL l m).length = m := by simp [wordsL]
theorem wordsL_at {l : List UInt8} {m j : Nat} (h : j < m) : (wordsL l m)[j]? = some (wdA l (8 * j)) := by unfold wordsL; rw [List.getElem?_map, List.getElem?_range h]; rfl
theorem wdA_cut {l : List UInt8} {a n : Nat} (h : a + 8 ≤ l.length) (hn : 8 ≤ n) : wdA ((l.drop a).take n) 0 = wdA l a := by unfold wdA num; rw [List.drop_zero, List.take_take, Nat.min_eq_left hn]
theorem write_d (p : Nat) (γ : Gh) (σ : Ds) (k m : Nat) (v : Value) (lb : List UInt8) (w : World) (hv : RdB w v lb) (ho : Off v (lb.map bv) (feet [Dev p γ σ])) (hm : lb.length = 8 * m) (hkl : k + m ≤ σ.ws.length) (hst : σ.steps + m ≤ 10000000000000) (hd : (Dev p γ σ).holds w) :
    DevU Tryd.prog 56 [.pointer (some ⟨p, 0, none⟩), .int .i64 (8 * (k : Int)), v] p γ σ (.int .i64 (storesE k σ (wordsL lb m)).1) (storesE k σ (wordsL lb m)).2 w := by
 obtain ⟨A, c, rfl⟩ : ∃ A c, v = .slice A lb.length c := by obtain ⟨A, c, h, _⟩ := hv; exact ⟨A, c, h⟩
 refine enterVc hd Tryd.func56 rfl Tryd.ntmps56 rfl ?_
 have hgd := Dev.good hd
 have hln := hgd.len
 simp only [envOf]
 refine tR ?_
 refine tA rfl rfl ?_
 refine tE ?_
 refine At.seq ?_
 refine tR ?_
 refine tM rfl rfl ?_
 refine tM rfl rfl ?_
 refine tM rfl rfl ?_
 refine At.val (Val.lenRd hv Tryd.underlying38 rfl) rfl rfl rfl ?_
 refine At.callK 0 rfl (fun w hw hr => has_k _ _ _ _ _ w hr) Tryd.call50 rfl rfl ?_
 refine At.val (Val.not rfl) rfl rfl rfl ?_
 refine tE ?_
 refine At.cond rfl (fun h1 => ?_) (fun h1 => ?_)
 ·skip
  try simp only [hasB, isSizeB, Bool.not_eq_true', Bool.not_eq_false', bne_iff_ne, ne_eq, bne_eq_false_iff_eq, beq_iff_eq, beq_eq_false_iff_ne, decide_eq_true_eq, decide_eq_false_iff_not, gt_iff_lt, ge_iff_le] at h1
  omega
 ·skip
  try simp only [hasB, isSizeB, Bool.not_eq_true', Bool.not_eq_false', bne_iff_ne, ne_eq, bne_eq_false_iff_eq, beq_iff_eq, beq_eq_false_iff_ne, decide_eq_true_eq, decide_eq_false_iff_not, gt_iff_lt, ge_iff_le] at h1
  refine At.skipC ?_
  refine At.thenN ?_
  refine At.seq ?_
  refine tR ?_
  refine tM rfl rfl ?_
  refine At.val (Val.remI rfl rfl (by omega) (by decide)) rfl rfl rfl ?_
  rw [show 8 * (k : Int) % 8 = 0 from by omega]
  refine At.val (Val.bin rfl rfl rfl) rfl rfl rfl ?_
  refine tM rfl rfl ?_
  refine At.yes rfl rfl ?_
  refine tM rfl rfl ?_
  refine At.yes rfl rfl ?_
  refine At.val (Val.lenRd hv Tryd.underlying38 rfl) rfl rfl rfl ?_
  refine At.yes rfl rfl ?_
  refine At.val (Val.remI rfl rfl (by omega) (by decide)) rfl rfl rfl ?_
  rw [show ((lb.length : Nat) : Int) % 8 = 0 from by omega]
  refine At.yes rfl rfl ?_
  refine At.val (Val.bin rfl rfl rfl) rfl rfl rfl ?_
  refine At.val (Val.pickF rfl rfl) rfl rfl rfl ?_
  refine tE ?_
  refine At.condF rfl ?_
  refine At.skipC ?_
  refine At.thenN ?_
  refine At.seq ?_
  refine tR ?_
  refine tA rfl rfl ?_
  refine tE ?_
  refine At.block ?_
  skip
  refine At.loop (σ := (Nat × Ds) × Gh) (fun s => s.1.1 ≤ m ∧ storesE k σ (wordsL lb m) = storesE (k + s.1.1) s.1.2 ((wordsL lb m).drop s.1.1) ∧ s.1.2.ws.length = σ.ws.length ∧ s.1.2.steps = σ.steps + s.1.1) (fun s => [(0, .pointer (some ⟨p, 0, none⟩)), (1, .int .i64 (8 * (k : Int))), (2, (.slice A lb.length c)), (7, .int .i64 (8 * (s.1.1 : Int)))]) (fun s => [Dev p s.2 s.1.2]) (fun s => m - s.1.1) ((0, σ), γ) ⟨Nat.zero_le _, rfl, rfl, rfl⟩ (Sub.cons rfl (Sub.cons rfl (Sub.cons rfl (Sub.cons rfl Sub.nil)))) (List.Perm.refl _) ?_
  intro s hs
  obtain ⟨⟨j, σ1⟩, γ1⟩ := s
  dsimp only at hs ⊢
  obtain ⟨hj, he, hl1, hs1⟩ := hs
  refine At.seq ?_
  refine tR ?_
  refine tM rfl rfl ?_
  refine tM rfl rfl ?_
  refine At.val (Val.lenRd hv Tryd.underlying38 rfl) rfl rfl rfl ?_
  refine At.val (Val.bin rfl rfl rfl) rfl rfl rfl ?_
  refine tE ?_
  refine At.cond rfl (fun h2 => ?_) (fun h2 => ?_)
  ·skip
   try simp only [hasB, isSizeB, Bool.not_eq_true', Bool.not_eq_false', bne_iff_ne, ne_eq, bne_eq_false_iff_eq, beq_iff_eq, beq_eq_false_iff_ne, decide_eq_true_eq, decide_eq_false_iff_not, gt_iff_lt, ge_iff_le] at h2
   have hjm : j < m := by omega
   refine At.skipC ?_
   refine At.thenN ?_
   refine At.seq ?_
   refine At.block ?_
   refine tR ?_
   refine tM rfl rfl ?_
   refine tM rfl rfl ?_
   refine tM rfl rfl ?_
   first | refine At.val (Val.addI rfl rfl (by omega) (by omega)) rfl rfl rfl ?_ | refine At.val (Val.bin rfl rfl rfl) rfl rfl rfl ?_
   refine tM rfl rfl ?_
   refine tM rfl rfl ?_
   refine At.val (Val.cutRd (l := 8 * j) (h := lb.length) hv Tryd.underlying38 Tryd.sizeOf5 rfl ⟨_, _, rfl, by omega, by omega⟩ rfl (by omega) (by omega)) rfl rfl rfl ?_
   refine At.callP (fun w hw => (by have h0 := wordOf_p _ _ w (RdB.cut (l := 8 * j) (h := lb.length) (hv.keep hw ho) (by omega) (by omega)) (by rw [List.length_take, List.length_drop]; omega); rwa [wdA_cut (by omega) (by omega)] at h0)) Tryd.call67 rfl rfl ?_
   obtain ⟨x, hx⟩ : ∃ x, x = wdA lb (8 * j) := ⟨_, rfl⟩
   rw [← hx]
   have hx : (wordsL lb m)[j]? = some x := by rw [hx]; exact wordsL_at hjm
   obtain ⟨wd, hwd⟩ : ∃ wd, σ1.ws[k + j]? = some wd := ⟨_, List.getElem?_eq_getElem (by omega)⟩
   cases hdb : deadB σ1
   ·skip
    rw [show 8 * (k : Int) + 8 * (j : Int) = 8 * ((k + j : Nat) : Int) from by omega]
    refine At.callD 0 rfl (fun w hw hr => (storeD_some (x := x) hwd) ▸ store_d _ _ _ (k + j) wd x w hwd (by omega) hdb hr) Tryd.call27 rfl rfl (fun y3 => ?_)
    simp only [sc0, scS]
    refine tA rfl rfl ?_
    refine tE ?_
    refine tR ?_
    refine tM rfl rfl ?_
    refine At.val (Val.bin rfl rfl rfl) rfl rfl rfl ?_
    refine tE ?_
    refine At.condF rfl ?_
    refine At.skipC ?_
    refine At.blkN ?_
    refine At.thenN ?_
    refine At.region ?_
    refine tM rfl rfl ?_
    first | refine At.val (Val.addI rfl rfl (by omega) (by omega)) rfl rfl rfl ?_ | refine At.val (Val.bin rfl rfl rfl) rfl rfl rfl ?_
    refine tA rfl rfl ?_
    refine tE ?_
    exact At.again ((j + 1, storeD σ1 (k + j) x), y3) ⟨(show j + 1 ≤ m by omega), (by rw [he, drop_cons hx, storesE_live hdb]; rfl), (storeD_rest x (show k + j < σ1.ws.length by omega)).2.2.trans hl1, (show (storeD σ1 (k + j) x).steps = σ.steps + (j + 1) by have := (storeD_rest x (show k + j < σ1.ws.length by omega)).1; omega)⟩ (by dsimp only; omega) (Sub.cons rfl (Sub.cons rfl (Sub.cons rfl (Sub.cons (congrArg (fun z => some (Value.int IntKind.i64 z)) (by first | omega | (dsimp only; omega))) Sub.nil)))) (List.Perm.refl _)
   ·skip
    refine At.callK 0 rfl (fun w hw hr => store_0 _ _ _ _ _ w (place_at' (by omega) (by omega) (by omega)) hdb hr) Tryd.call27 rfl rfl ?_
    refine tA rfl rfl ?_
    refine tE ?_
    refine tR ?_
    refine tM rfl rfl ?_
    refine At.val (Val.bin rfl rfl rfl) rfl rfl rfl ?_
    refine tE ?_
    refine At.condT rfl ?_
    refine tR ?_
    refine tM rfl rfl ?_
    refine tA rfl rfl ?_
    refine tE ?_
    refine At.retC ?_
    refine At.blkR ?_
    refine At.thenR ?_
    refine At.thenR ?_
    refine At.blkR ?_
    refine At.thenR ?_
    refine At.ret1 (.inl rfl) rfl rfl rfl (fun w hw => ?_)
    rw [he, drop_cons hx, storesE_dead hdb]
    exact ⟨_, rfl, hw⟩
  ·skip
   try simp only [hasB, isSizeB, Bool.not_eq_true', Bool.not_eq_false', bne_iff_ne, ne_eq, bne_eq_false_iff_eq, beq_iff_eq, beq_eq_false_iff_ne, decide_eq_true_eq, decide_eq_false_iff_not, gt_iff_lt, ge_iff_le] at h2
   refine At.exitC ?_
   refine At.thenX ?_
   refine At.thenX ?_
   refine At.blkX ?_
   refine At.thenN ?_
   refine tR ?_
   refine tA rfl rfl ?_
   refine tE ?_
   refine At.retC ?_
   refine At.ret1 (.inl rfl) rfl rfl rfl (fun w hw => ?_)
   rw [he, List.drop_of_length_le (by rw [wordsL_length]; omega)]
   exact ⟨_, rfl, hw⟩
end Go.Proofs.YtpihenmdkoojdaaDoor
set_option linter.unusedVariables false
set_option linter.unusedSimpArgs false
namespace Go.Proofs.YtpihenmdkoojdaaDoor
open Go Go.Wk
/-- One step of a device: a store in the word k, the flush of the line l, a fence. -/
inductive Ac where
  | st (k : Nat) (x : BitVec 64)
  | fl (l : Nat)
  | fe
def stepA (σ : Ds) : Ac → Ds
  | .st k x => storeD σ k x
  | .fl l => lineD σ l
  | .fe => fenceD (stepD σ)
/-- The steps up to the first that is refused. -/
def actsE : Ds → List Ac → Int × Ds
  | σ, [] => (0, σ)
  | σ, a :: l => if deadB σ = true then (13, σ) else actsE (stepA σ a) l
theorem actsE_dead {σ : Ds} {a : Ac} {l : List Ac} (h : deadB σ = true) : actsE σ (a :: l) = (13, σ) := by unfold actsE; rw [if_pos h]
theorem actsE_live {σ : Ds} {a : Ac} {l : List Ac} (h : deadB σ = false) : actsE σ (a :: l) = actsE (stepA σ a) l := by
  show (if deadB σ = true then (13, σ) else actsE (stepA σ a) l) = _
  rw [if_neg (by rw [h]; simp)]
theorem actsE_01 : ∀ (l : List Ac) (σ : Ds), (actsE σ l).1 = 0 ∨ (actsE σ l).1 = 13
  | [], σ => Or.inl rfl
  | a :: l, σ => by
    cases h : deadB σ with
    | true => rw [actsE_dead h]; exact Or.inr rfl
    | false => rw [actsE_live h]; exact actsE_01 l _
theorem actsE_append : ∀ (a b : List Ac) (σ : Ds), actsE σ (a ++ b) = if (actsE σ a).1 = 0 then actsE (actsE σ a).2 b else actsE σ a
  | [], b, σ => rfl
  | x :: a, b, σ => by
    rw [List.cons_append]
    cases h : deadB σ with
    | true => rw [actsE_dead h, actsE_dead h]; rfl
    | false => rw [actsE_live h, actsE_live h]; exact actsE_append a b _
theorem actsE_go {a b : List Ac} {σ : Ds} (h : (actsE σ a).1 = 0) : actsE σ (a ++ b) = actsE (actsE σ a).2 b := by rw [actsE_append, if_pos h]
theorem actsE_stop {a b : List Ac} {σ : Ds} (h : (actsE σ a).1 = 13) : actsE σ (a ++ b) = actsE σ a := by rw [actsE_append, if_neg (by rw [h]; decide)]
def AcOk (n : Nat) : Ac → Prop
  | .st k _ => k < n
  | .fl l => 8 * l < n
  | .fe => True
theorem stepA_rest {σ : Ds} {a : Ac} (h : AcOk σ.ws.length a) : (stepA σ a).steps = σ.steps + 1 ∧ (stepA σ a).armed = σ.armed ∧ (stepA σ a).ws.length = σ.ws.length := by
  cases a with
  | st k x => exact storeD_rest x h
  | fl l => exact lineD_rest σ l
  | fe => exact ⟨rfl, rfl, by simp [stepA, fenceD, stepD]⟩
theorem actsE_rest : ∀ (l : List Ac) (σ : Ds), (∀ a ∈ l, AcOk σ.ws.length a) → (actsE σ l).2.ws.length = σ.ws.length ∧ (actsE σ l).2.steps ≤ σ.steps + l.length ∧ (actsE σ l).2.armed = σ.armed ∧ (σ.armed = false → (actsE σ l).1 = 0 ∧ (actsE σ l).2.steps = σ.steps + l.length)
  | [], σ, _ => ⟨rfl, Nat.le_refl _, rfl, fun _ => ⟨rfl, rfl⟩⟩
  | a :: l, σ, h => by
    cases hd : deadB σ with
    | true =>
      rw [actsE_dead hd]
      exact ⟨rfl, Nat.le_add_right _ _, rfl, fun ha => by rw [dead_of ha] at hd; cases hd⟩
    | false =>
      rw [actsE_live hd]
      obtain ⟨h1, h2, h3⟩ := stepA_rest (h a (List.mem_cons_self ..))
      obtain ⟨g1, g2, g3, g4⟩ := actsE_rest l (stepA σ a) (fun b hb => by rw [h3]; exact h b (List.mem_cons_of_mem _ hb))
      exact ⟨g1.trans h3, by rw [List.length_cons]; omega, g3.trans h2, fun ha => ⟨(g4 (h2.trans ha)).1, by rw [(g4 (h2.trans ha)).2, List.length_cons]; omega⟩⟩
def stA : Nat → List (BitVec 64) → List Ac
  | _, [] => []
  | k, x :: l => .st k x :: stA (k + 1) l
def flA : Nat → Nat → List Ac
  | _, 0 => []
  | l, c + 1 => .fl l :: flA (l + 1) c
theorem stA_len : ∀ (l : List (BitVec 64)) (k : Nat), (stA k l).length = l.length
  | [], _ => rfl
  | x :: l, k => by rw [stA, List.length_cons, stA_len l, List.length_cons]
theorem flA_len : ∀ (c l : Nat), (flA l c).length = c
  | 0, _ => rfl
  | c + 1, l => by rw [flA, List.length_cons, flA_len c]
theorem stA_ok {n : Nat} : ∀ (l : List (BitVec 64)) (k : Nat), k + l.length ≤ n → ∀ a ∈ stA k l, AcOk n a
  | [], _, _, a, h => by cases h
  | x :: l, k, hk, a, h => by
    rw [List.length_cons] at hk
    rcases List.mem_cons.1 h with rfl | h
    · show k < n; omega
    · exact stA_ok l (k + 1) (by omega) a h
theorem flA_ok {n : Nat} : ∀ (c l : Nat), 8 * (l + c) < n + 8 → ∀ a ∈ flA l c, AcOk n a
  | 0, _, _, a, h => by cases h
  | c + 1, l, hk, a, h => by
    rcases List.mem_cons.1 h with rfl | h
    · show 8 * l < n; omega
    · exact flA_ok c (l + 1) (by omega) a h
theorem storesE_acts : ∀ (l : List (BitVec 64)) (k : Nat) (σ : Ds), storesE k σ l = actsE σ (stA k l)
  | [], _, _ => rfl
  | x :: l, k, σ => by
    rw [stA]
    cases h : deadB σ with
    | true => rw [storesE_dead h, actsE_dead h]
    | false => rw [storesE_live h, actsE_live h]; exact storesE_acts l _ _
theorem linesE_acts : ∀ (c l : Nat) (σ : Ds), linesE l σ c = actsE σ (flA l c)
  | 0, _, _ => rfl
  | c + 1, l, σ => by
    rw [flA]
    cases h : deadB σ with
    | true => rw [linesE_dead h, actsE_dead h]
    | false => rw [linesE_live h, actsE_live h]; exact linesE_acts c _ _
end Go.Proofs.YtpihenmdkoojdaaDoor
set_option linter.unusedVariables false
set_option linter.unusedSimpArgs false
namespace Go.Proofs.YtpihenmdkoojdaaDoor
open Go Go.Wk
def area (l : List UInt8) : List UInt8 := (l.drop 1024).take 1024
theorem area_length {l : List UInt8} (h : 2048 ≤ l.length) : (area l).length = 1024 := by unfold area; rw [List.length_take, List.length_drop]; omega
/-- The stamp of the next record, the stamp of the clean word. -/
noncomputable def nextT (l : List UInt8) : BitVec 32 := if oE (area l) ≠ 0 ∨ (oT (area l)).toNat = 4294967295 then 1 else oT (area l) + 1
def cleanT (l : List UInt8) : BitVec 32 := if sealW (BitVec.ofInt 64 128) ((wdA l 128).setWidth 32) = wdA l 128 then (wdA l 128).setWidth 32 else 0
theorem nextT_0 (l : List UInt8) : (nextT l).toNat ≠ 0 := by
  unfold nextT
  split
  · decide
  · rename_i h
    have := (oT (area l)).isLt
    rw [BitVec.toNat_add]
    show ((oT (area l)).toNat + 1) % 4294967296 ≠ 0
    omega
theorem room_p (v : Value) (l : List UInt8) (a n : Int) (w : World) (hv : RdB w v l) (hlen : l.length ≤ 140737488355328) (hn : 0 ≤ n ∧ n ≤ 140737488355328) :
    PureC Tryd.prog 70 [v, .int .i64 a, .int .i64 n] (.bool (decide (0 ≤ a ∧ a ≤ l.length ∧ n ≤ l.length - a))) w := by
 refine enter0 Tryd.func70 rfl Tryd.ntmps70 rfl ?_
 simp only [envOf]
 refine tR ?_
 refine tA rfl rfl ?_
 refine tE ?_
 refine tR ?_
 refine tM rfl rfl ?_
 refine At.val (Val.bin rfl rfl rfl) rfl rfl rfl ?_
 refine tM rfl rfl ?_
 refine At.split (t := 9) rfl (fun h1 => ?_) (fun h1 => ?_)
 ·skip
  try simp only [hasB, isSizeB, Bool.not_eq_true', Bool.not_eq_false', bne_iff_ne, ne_eq, bne_eq_false_iff_eq, beq_iff_eq, beq_eq_false_iff_ne, decide_eq_true_eq, decide_eq_false_iff_not, gt_iff_lt, ge_iff_le] at h1
  refine At.yes rfl rfl ?_
  refine tM rfl rfl ?_
  refine At.yes rfl rfl ?_
  refine tM rfl rfl ?_
  refine At.yes rfl rfl ?_
  refine At.val (Val.lenRd hv Tryd.underlying38 rfl) rfl rfl rfl ?_
  refine At.yes rfl rfl ?_
  refine At.val (Val.bin rfl rfl rfl) rfl rfl rfl ?_
  refine At.val (Val.pickT rfl rfl) rfl rfl rfl ?_
  refine tM rfl rfl ?_
  refine At.split (t := 15) rfl (fun h2 => ?_) (fun h2 => ?_)
  ·skip
   try simp only [hasB, isSizeB, Bool.not_eq_true', Bool.not_eq_false', bne_iff_ne, ne_eq, bne_eq_false_iff_eq, beq_iff_eq, beq_eq_false_iff_ne, decide_eq_true_eq, decide_eq_false_iff_not, gt_iff_lt, ge_iff_le] at h2
   refine At.yes rfl rfl ?_
   refine tM rfl rfl ?_
   refine At.yes rfl rfl ?_
   refine At.val (Val.lenRd hv Tryd.underlying38 rfl) rfl rfl rfl ?_
   refine At.yes rfl rfl ?_
   refine tM rfl rfl ?_
   refine At.yes rfl rfl ?_
   first | refine At.val (Val.subI rfl rfl (by omega) (by omega)) rfl rfl rfl ?_ | refine At.val (Val.bin rfl rfl rfl) rfl rfl rfl ?_
   refine At.yes rfl rfl ?_
   refine tM rfl rfl ?_
   refine At.yes rfl rfl ?_
   refine At.val (Val.bin rfl rfl rfl) rfl rfl rfl ?_
   refine At.val (Val.pickT rfl rfl) rfl rfl rfl ?_
   refine tA rfl rfl ?_
   refine tE ?_
   refine At.retC ?_
   refine At.ret1 (.inl rfl) rfl rfl rfl (fun w hw => ?_)
   exact ⟨retB (by first | exact (decide_eq_true (by omega)).symm | exact (decide_eq_false (by omega)).symm | (apply Bool.eq_iff_iff.2; simp only [decide_eq_true_eq]; omega)), hw.mod⟩
  ·skip
   try simp only [hasB, isSizeB, Bool.not_eq_true', Bool.not_eq_false', bne_iff_ne, ne_eq, bne_eq_false_iff_eq, beq_iff_eq, beq_eq_false_iff_ne, decide_eq_true_eq, decide_eq_false_iff_not, gt_iff_lt, ge_iff_le] at h2
   refine At.no rfl rfl rfl rfl ?_
   refine At.no rfl rfl rfl rfl ?_
   refine At.no rfl rfl rfl rfl ?_
   refine At.no rfl rfl rfl rfl ?_
   refine At.no rfl rfl rfl rfl ?_
   refine At.no rfl rfl rfl rfl ?_
   refine At.val (Val.pickF rfl rfl) rfl rfl rfl ?_
   refine tA rfl rfl ?_
   refine tE ?_
   refine At.retC ?_
   refine At.ret1 (.inl rfl) rfl rfl rfl (fun w hw => ?_)
   exact ⟨retB (by first | exact (decide_eq_true (by omega)).symm | exact (decide_eq_false (by omega)).symm | (apply Bool.eq_iff_iff.2; simp only [decide_eq_true_eq]; omega)), hw.mod⟩
 ·skip
  try simp only [hasB, isSizeB, Bool.not_eq_true', Bool.not_eq_false', bne_iff_ne, ne_eq, bne_eq_false_iff_eq, beq_iff_eq, beq_eq_false_iff_ne, decide_eq_true_eq, decide_eq_false_iff_not, gt_iff_lt, ge_iff_le] at h1
  refine At.no rfl rfl rfl rfl ?_
  refine At.no rfl rfl rfl rfl ?_
  refine At.no rfl rfl rfl rfl ?_
  refine At.no rfl rfl rfl rfl ?_
  refine At.val (Val.pickF rfl rfl) rfl rfl rfl ?_
  refine tM rfl rfl ?_
  refine At.no rfl rfl rfl rfl ?_
  refine At.no rfl rfl rfl rfl ?_
  refine At.no rfl rfl rfl rfl ?_
  refine At.no rfl rfl rfl rfl ?_
  refine At.no rfl rfl rfl rfl ?_
  refine At.no rfl rfl rfl rfl ?_
  refine At.val (Val.pickF rfl rfl) rfl rfl rfl ?_
  refine tA rfl rfl ?_
  refine tE ?_
  refine At.retC ?_
  refine At.ret1 (.inl rfl) rfl rfl rfl (fun w hw => ?_)
  exact ⟨retB (by first | exact (decide_eq_true (by omega)).symm | exact (decide_eq_false (by omega)).symm | (apply Bool.eq_iff_iff.2; simp only [decide_eq_true_eq]; omega)), hw.mod⟩
theorem cword_p (v : Value) (l : List UInt8) (a : Nat) (w : World) (hv : RdB w v l) (hlen : l.length ≤ 140737488355328) (hn : a + 8 ≤ l.length) :
    PureC Tryd.prog 60 [v, .int .i64 (a : Int)] (.tuple #[b64 (wdA l a), .int .i64 0]) w := by
 refine enter0 Tryd.func60 rfl Tryd.ntmps60 rfl ?_
 simp only [envOf]
 refine tR ?_
 refine tA rfl rfl ?_
 refine tA rfl rfl ?_
 refine tE ?_
 refine At.seq ?_
 refine tR ?_
 refine tM rfl rfl ?_
 refine tM rfl rfl ?_
 refine At.callP (fun w hw => room_p v l a 8 w (hv.mod hw.mod) hlen (by omega)) Tryd.call70 rfl rfl ?_
 refine At.val (Val.not rfl) rfl rfl rfl ?_
 refine tE ?_
 refine At.cond rfl (fun h1 => ?_) (fun h1 => ?_)
 ·skip
  try simp only [hasB, isSizeB, Bool.not_eq_true', Bool.not_eq_false', bne_iff_ne, ne_eq, bne_eq_false_iff_eq, beq_iff_eq, beq_eq_false_iff_ne, decide_eq_true_eq, decide_eq_false_iff_not, gt_iff_lt, ge_iff_le] at h1
  omega
 ·skip
  try simp only [hasB, isSizeB, Bool.not_eq_true', Bool.not_eq_false', bne_iff_ne, ne_eq, bne_eq_false_iff_eq, beq_iff_eq, beq_eq_false_iff_ne, decide_eq_true_eq, decide_eq_false_iff_not, gt_iff_lt, ge_iff_le] at h1
  refine At.skipC ?_
  refine At.thenN ?_
  refine tR ?_
  refine tA rfl rfl ?_
  refine tE ?_
  refine At.seq ?_
  refine tR ?_
  refine tM rfl rfl ?_
  refine tE ?_
  refine At.block ?_
  skip
  refine At.loop (σ := Nat) (fun k => k ≤ 8) (fun k => [(0, v), (1, .int .i64 (a : Int)), (6, .int .u64 (num l a k : Nat)), (12, .int .i64 (k : Int))]) (fun k => []) (fun k => 8 - k) 0 (by decide) (Sub.cons rfl (Sub.cons rfl (Sub.cons (congrArg (fun z => some (Value.int IntKind.u64 z)) (by rw [num_zero]; rfl)) (Sub.cons rfl Sub.nil)))) (List.Perm.refl _) ?_
  intro k hs
  refine tR ?_
  refine At.val (Val.bin rfl rfl rfl) rfl rfl rfl ?_
  refine tE ?_
  refine At.seq ?_
  refine At.cond rfl (fun h2 => ?_) (fun h2 => ?_)
  ·skip
   try simp only [hasB, isSizeB, Bool.not_eq_true', Bool.not_eq_false', bne_iff_ne, ne_eq, bne_eq_false_iff_eq, beq_iff_eq, beq_eq_false_iff_ne, decide_eq_true_eq, decide_eq_false_iff_not, gt_iff_lt, ge_iff_le] at h2
   obtain ⟨u, hu⟩ : ∃ u, l[a + k]? = some u := ⟨_, List.getElem?_eq_getElem (by omega)⟩
   refine At.skipC ?_
   refine At.thenN ?_
   refine At.seq ?_
   refine At.block ?_
   refine tR ?_
   refine tM rfl rfl ?_
   refine tA rfl rfl ?_
   refine tE ?_
   refine At.region ?_
   refine tM rfl rfl ?_
   refine tM rfl rfl ?_
   refine tM rfl rfl ?_
   refine tM rfl rfl ?_
   first | refine At.val (Val.addI rfl rfl (by omega) (by omega)) rfl rfl rfl ?_ | refine At.val (Val.bin rfl rfl rfl) rfl rfl rfl ?_
   refine At.idxB hv Tryd.underlying38 Tryd.sizeOf5 rfl rfl (by omega) (by omega) rfl rfl (fun b3 o4 q5 hq6 hl7 hc8 => ?_)
   refine At.val (Val.loadOld Tryd.isAgg5 rfl hc8 (fun h => h)) rfl rfl rfl ?_
   refine At.val (Val.conv Tryd.underlying5 Tryd.underlying65 rfl) rfl rfl rfl ?_
   rw [wrap_u64 (n := (q5.toNat : Int)) (by omega) (by have := q5.toNat_lt; omega), show q5 = u from by have h1 := hq6; rw [show ((a : Int) + (k : Int)).toNat = a + k by omega, hu] at h1; exact (Option.some.inj h1).symm]
   refine tM rfl rfl ?_
   first | refine At.val (Val.mulI rfl rfl (by omega) (by omega)) rfl rfl rfl ?_ | refine At.val (Val.bin rfl rfl rfl) rfl rfl rfl ?_
   refine At.val (Val.shl rfl rfl (by omega)) rfl rfl rfl ?_
   refine At.val (Val.bin rfl rfl rfl) rfl rfl rfl ?_
   rw [num_or hu (by omega)]
   refine tA rfl rfl ?_
   refine At.nil ?_
   refine At.blkN ?_
   refine At.thenN ?_
   refine At.region ?_
   first | refine At.val (Val.addI rfl rfl (by omega) (by omega)) rfl rfl rfl ?_ | refine At.val (Val.bin rfl rfl rfl) rfl rfl rfl ?_
   refine tM rfl rfl ?_
   refine tE ?_
   exact At.again (k + 1) (by omega) (by omega) (Sub.cons rfl (Sub.cons rfl (Sub.cons rfl (Sub.cons (congrArg (fun z => some (Value.int IntKind.i64 z)) (by omega)) Sub.nil)))) (List.Perm.refl _)
  ·skip
   try simp only [hasB, isSizeB, Bool.not_eq_true', Bool.not_eq_false', bne_iff_ne, ne_eq, bne_eq_false_iff_eq, beq_iff_eq, beq_eq_false_iff_ne, decide_eq_true_eq, decide_eq_false_iff_not, gt_iff_lt, ge_iff_le] at h2
   obtain rfl : k = 8 := by omega
   refine At.exitC ?_
   refine At.thenX ?_
   refine At.thenX ?_
   refine At.blkX ?_
   refine At.thenN ?_
   refine tR ?_
   refine tM rfl rfl ?_
   refine tA rfl rfl ?_
   refine tA rfl rfl ?_
   refine tE ?_
   refine At.retC ?_
   refine At.ret2 (.inl rfl) rfl rfl rfl rfl (fun w hw => ?_)
   exact ⟨by rw [wdA_val], hw.mod⟩
theorem readSv_n (v : Value) (l : List UInt8) (w : World) (ht : Tab w) (hv : RdB w v l) (h0 : 2048 ≤ l.length) (hlen : l.length ≤ 140737488355328) :
    NewRowT Tryd.prog 41 [v] (fun v => .tuple #[.agg #[b32 (oT (area l)), v], .int .i64 (oE (area l))]) 51 2 (oL (area l)).length (prS (oL (area l))) w := by
 refine enter0 Tryd.func41 rfl Tryd.ntmps41 rfl ?_
 have hal := area_length h0
 simp only [envOf]
 refine tR ?_
 refine At.alloc Tryd.zeroValue76 rfl rfl (fun b1 => ?_)
 refine tA rfl rfl ?_
 refine tE ?_
 refine tR ?_
 refine At.makeRowB (n := 1024) Tryd.underlying38 info_5 rfl rfl rfl rfl rfl (by omega) rfl (fun v2 => ?_)
 refine tA rfl rfl ?_
 refine tE ?_
 refine tR ?_
 refine tM rfl rfl ?_
 refine tM rfl rfl ?_
 refine At.cutB (1024) (2048) hv Tryd.underlying38 Tryd.sizeOf5 rfl ⟨_, _, rfl, by omega, by omega⟩ ⟨_, _, rfl, by omega, by omega⟩ (by omega) (by omega) rfl rfl (fun v3 hv4 => ?_)
 refine At.copyWhole (i := 0) (sz := 1) (ys := (area l).map bv) Tryd.underlying38 Tryd.sizeOf5 rfl rfl rfl (by decide) (fun w hw => by rw [zs_length, ← hal]; exact (hv4.mod hw.mod : RdB w _ (area l))) (bv_one _) rfl ?_
 simp only [sc0, scS]
 rw [show (zs (1024)).length = (area l).length from by rw [zs_length, hal]]
 refine tE ?_
 refine tR ?_
 refine tM rfl rfl ?_
 refine At.callNT (g := (fun v => .tuple #[.agg #[b32 (oT (area l)), v], .int .i64 (oE (area l))])) (fun w hw => openSv_n _ (area l) w (ht.mod hw.mod) (row_rd (hw.row (i := 0) rfl) (by decide)) (by omega)) Tryd.call62 rfl rfl (fun v5 => ?_)
 refine At.val (Val.extract rfl rfl) rfl rfl rfl ?_
 refine At.val (Val.extract rfl rfl) rfl rfl rfl ?_
 refine At.rowOne (i := 0) rfl (fun ho6 => ?_)
 refine At.storeAll (i := 2) Tryd.sizeOf76 rfl rfl rfl (by intro u hu; simp only [List.mem_cons, List.not_mem_nil, or_false] at hu; rcases hu with rfl | rfl <;> first | rfl | assumption) rfl rfl ?_
 simp only [sc0, scS]
 refine tA rfl rfl ?_
 refine tE ?_
 refine At.retC ?_
 refine At.ret2 (.inl rfl) rfl rfl (ResOf.all (i := 2) Tryd.isAgg76 Tryd.sizeOf76 rfl rfl rfl) rfl (fun w hw => ?_)
 exact ⟨_, rfl, (hw.drop (List.singleton_sublist.2 (List.mem_of_getElem? (i := 0) rfl))).f0⟩
theorem nextSt_p (v : Value) (l : List UInt8) (w : World) (ht : Tab w) (hv : RdB w v l) (h0 : 2048 ≤ l.length) (hlen : l.length ≤ 140737488355328) :
    PureC Tryd.prog 32 [v] (b32 (nextT l)) w := by
 refine enter0 Tryd.func32 rfl Tryd.ntmps32 rfl ?_
 simp only [envOf]
 refine tR ?_
 refine tA rfl rfl ?_
 refine tE ?_
 refine tR ?_
 refine tM rfl rfl ?_
 refine At.callNT (g := (fun v => .tuple #[.agg #[b32 (oT (area l)), v], .int .i64 (oE (area l))])) (fun w hw => readSv_n v l w (ht.mod hw.mod) (hv.mod hw.mod) h0 hlen) Tryd.call41 rfl rfl (fun v1 => ?_)
 refine tM rfl rfl ?_
 refine At.val (Val.extract rfl rfl) rfl rfl rfl ?_
 refine At.val (Val.extract rfl rfl) rfl rfl rfl ?_
 refine At.alloc Tryd.zeroValue76 rfl rfl (fun b2 => ?_)
 refine At.rowOne (i := 1) rfl (fun ho3 => ?_)
 refine At.storeAll (i := 0) Tryd.sizeOf76 rfl rfl rfl (by intro u hu; simp only [List.mem_cons, List.not_mem_nil, or_false] at hu; rcases hu with rfl | rfl <;> first | rfl | assumption) rfl rfl ?_
 simp only [sc0, scS]
 refine tA rfl rfl ?_
 refine tE ?_
 refine At.seq ?_
 refine tR ?_
 refine tM rfl rfl ?_
 refine At.val (Val.bin rfl rfl rfl) rfl rfl rfl ?_
 refine At.weaken [(0, _), (2, _), (6, _), (7, _), (5, _), (8, _), (9, _), (3, _), (11, _)] (Sub.cons rfl (Sub.cons rfl (Sub.cons rfl (Sub.cons rfl (Sub.cons rfl (Sub.cons rfl (Sub.cons rfl (Sub.cons rfl (Sub.cons rfl Sub.nil))))))))) ?_
 refine At.boolMeet 5 16 (decide (oE (area l) ≠ 0 ∨ (oT (area l)).toNat = 4294967295)) ?_ ?_
 ·skip
  simp only [List.take_succ_cons, List.take_zero]
  refine tM rfl rfl ?_
  refine At.split (t := 12) rfl (fun h4 => ?_) (fun h4 => ?_)
  ·skip
   try simp only [hasB, isSizeB, Bool.not_eq_true', Bool.not_eq_false', bne_iff_ne, ne_eq, bne_eq_false_iff_eq, beq_iff_eq, beq_eq_false_iff_ne, decide_eq_true_eq, decide_eq_false_iff_not, gt_iff_lt, ge_iff_le] at h4
   refine At.no rfl rfl rfl rfl ?_
   refine At.no rfl rfl rfl rfl ?_
   refine At.no rfl rfl rfl rfl ?_
   refine At.val (Val.pickT rfl rfl) rfl rfl rfl ?_
   refine At.nil ?_
   exact At.boolEnd rfl (by apply Bool.eq_iff_iff.2; (simp only [decide_eq_true_eq, Bool.false_eq_true, false_iff, true_iff, ne_eq, beq_iff_eq, bne_iff_ne]) <;> omega) (by repeat (first | exact Sub.nil | refine Sub.cons rfl ?_))
  ·skip
   try simp only [hasB, isSizeB, Bool.not_eq_true', Bool.not_eq_false', bne_iff_ne, ne_eq, bne_eq_false_iff_eq, beq_iff_eq, beq_eq_false_iff_ne, decide_eq_true_eq, decide_eq_false_iff_not, gt_iff_lt, ge_iff_le] at h4
   refine At.yes rfl rfl ?_
   refine At.val (Val.field 0 rfl fo_76_0 rfl) rfl rfl rfl ?_
   refine At.yes rfl rfl ?_
   refine At.val (Val.load (i := 0) Tryd.isAgg71 rfl rfl rfl) rfl rfl rfl ?_
   refine At.yes rfl rfl ?_
   refine At.val (Val.bin rfl rfl rfl) rfl rfl rfl ?_
   refine At.val (Val.pickF rfl rfl) rfl rfl rfl ?_
   refine At.nil ?_
   exact At.boolEnd rfl (by apply Bool.eq_iff_iff.2; (simp only [decide_eq_true_eq, Bool.false_eq_true, false_iff, true_iff, ne_eq, beq_iff_eq, bne_iff_ne]) <;> omega) (by repeat (first | exact Sub.nil | refine Sub.cons rfl ?_))
 ·skip
  simp only [List.drop_succ_cons, List.drop_zero]
  refine tE ?_
  refine At.cond rfl (fun h5 => ?_) (fun h5 => ?_)
  ·skip
   try simp only [hasB, isSizeB, Bool.not_eq_true', Bool.not_eq_false', bne_iff_ne, ne_eq, bne_eq_false_iff_eq, beq_iff_eq, beq_eq_false_iff_ne, decide_eq_true_eq, decide_eq_false_iff_not, gt_iff_lt, ge_iff_le] at h5
   have hnx : oE (area l) ≠ 0 ∨ (oT (area l)).toNat = 4294967295 := by first | exact h5 | (simp only [ne_eq]; exact h5) | omega
   refine tR ?_
   refine tA rfl rfl ?_
   refine tE ?_
   refine At.retC ?_
   refine At.thenR ?_
   refine At.ret1 (.inl rfl) rfl rfl rfl (fun w hw => ?_)
   exact ⟨by unfold nextT; rw [if_pos hnx]; rfl, hw.mod⟩
  ·skip
   try simp only [hasB, isSizeB, Bool.not_eq_true', Bool.not_eq_false', bne_iff_ne, ne_eq, bne_eq_false_iff_eq, beq_iff_eq, beq_eq_false_iff_ne, decide_eq_true_eq, decide_eq_false_iff_not, gt_iff_lt, ge_iff_le] at h5
   have hnx : ¬ (oE (area l) ≠ 0 ∨ (oT (area l)).toNat = 4294967295) := by first | exact h5 | omega
   refine At.skipC ?_
   refine At.thenN ?_
   refine tR ?_
   refine At.val (Val.field 0 rfl fo_76_0 rfl) rfl rfl rfl ?_
   refine At.val (Val.load (i := 0) Tryd.isAgg71 rfl rfl rfl) rfl rfl rfl ?_
   refine At.val (Val.bin rfl rfl rfl) rfl rfl rfl ?_
   refine tA rfl rfl ?_
   refine tE ?_
   refine At.retC ?_
   refine At.ret1 (.inl rfl) rfl rfl rfl (fun w hw => ?_)
   have h4 := (oT (area l)).isLt
   exact ⟨by unfold nextT; rw [if_neg hnx]; unfold b32; rw [wrap_u32 (by omega) (by omega), BitVec.toNat_add, show (oT (area l)).toNat + (1 : BitVec 32).toNat = (oT (area l)).toNat + 1 from rfl, Nat.mod_eq_of_lt (by omega)]; rfl, hw.mod⟩
theorem cleanSt_p (v : Value) (l : List UInt8) (w : World) (ht : Tab w) (hv : RdB w v l) (h0 : 136 ≤ l.length) (hlen : l.length ≤ 140737488355328) :
    PureC Tryd.prog 40 [v] (b32 (cleanT l)) w := by
 refine enter0 Tryd.func40 rfl Tryd.ntmps40 rfl ?_
 simp only [envOf]
 refine tR ?_
 refine tA rfl rfl ?_
 refine tE ?_
 refine tR ?_
 refine tM rfl rfl ?_
 refine At.callP (fun w hw => cword_p v l 128 w (hv.mod hw.mod) hlen (by omega)) Tryd.call60 rfl rfl ?_
 refine tM rfl rfl ?_
 refine At.val (Val.extract rfl rfl) rfl rfl rfl ?_
 refine At.val (Val.extract rfl rfl) rfl rfl rfl ?_
 refine tA rfl rfl ?_
 refine tA rfl rfl ?_
 refine tE ?_
 refine At.seq ?_
 refine tR ?_
 refine tM rfl rfl ?_
 refine At.val (Val.bin rfl rfl rfl) rfl rfl rfl ?_
 refine tE ?_
 refine At.condF rfl ?_
 refine At.skipC ?_
 refine At.thenN ?_
 refine tR ?_
 refine tM rfl rfl ?_
 by_cases hs : sealW (BitVec.ofInt 64 128) ((wdA l 128).setWidth 32) = wdA l 128
 ·skip
  refine At.callP (fun w hw => (by have := unseal_p 128 (wdA l 128) w (ht.mod hw.mod); rwa [unseal_yes hs] at this)) Tryd.call61 rfl rfl ?_
  refine tM rfl rfl ?_
  refine At.val (Val.extract rfl rfl) rfl rfl rfl ?_
  refine At.val (Val.extract rfl rfl) rfl rfl rfl ?_
  refine tA rfl rfl ?_
  refine tA rfl rfl ?_
  refine tE ?_
  refine At.seq ?_
  refine tR ?_
  refine tM rfl rfl ?_
  refine At.val (Val.bin rfl rfl rfl) rfl rfl rfl ?_
  refine tE ?_
  refine At.condF rfl ?_
  refine At.skipC ?_
  refine At.thenN ?_
  refine tR ?_
  refine tM rfl rfl ?_
  refine tA rfl rfl ?_
  refine tE ?_
  refine At.retC ?_
  refine At.ret1 (.inl rfl) rfl rfl rfl (fun w hw => ?_)
  exact ⟨by unfold cleanT; rw [if_pos hs]; rfl, hw.mod⟩
 ·skip
  refine At.callP (fun w hw => (by have := unseal_p 128 (wdA l 128) w (ht.mod hw.mod); rwa [unseal_no hs] at this)) Tryd.call61 rfl rfl ?_
  refine tM rfl rfl ?_
  refine At.val (Val.extract rfl rfl) rfl rfl rfl ?_
  refine At.val (Val.extract rfl rfl) rfl rfl rfl ?_
  refine tA rfl rfl ?_
  refine tA rfl rfl ?_
  refine tE ?_
  refine At.seq ?_
  refine tR ?_
  refine tM rfl rfl ?_
  refine At.val (Val.bin rfl rfl rfl) rfl rfl rfl ?_
  refine tE ?_
  refine At.condT rfl ?_
  refine tR ?_
  refine tA rfl rfl ?_
  refine tE ?_
  refine At.retC ?_
  refine At.thenR ?_
  refine At.ret1 (.inl rfl) rfl rfl rfl (fun w hw => ?_)
  exact ⟨by unfold cleanT; rw [if_neg hs]; rfl, hw.mod⟩
end Go.Proofs.YtpihenmdkoojdaaDoor
set_option linter.unusedVariables false
set_option linter.unusedSimpArgs false
namespace Go.Proofs.YtpihenmdkoojdaaDoor
open Go Go.Wk
theorem ne_span (a b : Int × Int) : (!((a.1 == b.1) && ((a.2 == b.2) && true))) = decide (¬ a = b) := by
  obtain ⟨a1, a2⟩ := a
  obtain ⟨b1, b2⟩ := b
  rw [Bool.eq_iff_iff]
  simp only [Bool.not_eq_true', Bool.and_true, Bool.and_eq_false_iff, beq_eq_false_iff_ne, ne_eq, decide_eq_true_eq, Prod.mk.injEq]
  omega
theorem eq_shape (p i c d e : Int) : ((p == p) && ((i == i) && ((c == c) && ((e == d) && true)))) = decide (d = e) := by
  simp only [beq_self_eq_true, Bool.true_and, Bool.and_true]
  rw [Bool.eq_iff_iff]; simp only [beq_iff_eq, decide_eq_true_eq]
  exact ⟨Eq.symm, Eq.symm⟩
theorem prS_drop : ∀ (l : List (Int × Int)) (k : Nat), prS (l.drop k) = (prS l).drop (k * 2)
  | [], k => by simp [prS]
  | c :: l, 0 => by simp
  | c :: l, k + 1 => by
    rw [List.drop_succ_cons, show (k + 1) * 2 = k * 2 + 1 + 1 by omega, prS_drop l k]
    rfl
/-- A part of a list of spans. -/
theorem RdS.cut {w : World} {l h c : Nat} {A : Option Addr} {L : List (Int × Int)} (hr : RdS w (.slice A L.length c) L) (h1 : l ≤ h) (h2 : h ≤ L.length) : RdS w (.slice (cutA A c l 2) (h - l) (c - l)) ((L.drop l).take (h - l)) := by
  have := Rd.cut hr h1 h2
  unfold RdS
  rw [prS_take, prS_drop, List.length_take, List.length_drop, Nat.min_eq_left (by omega)]
  exact this
theorem good1 (q : Int × Int) : GoodSv 1 [q] ↔ OkSp 5 q := by
  constructor
  · intro h
    exact h.2.2 0 q Nat.zero_lt_one rfl
  · intro h
    refine ⟨by decide, (show 1 ≤ 249 by decide), fun j c hj hc => ?_⟩
    obtain rfl : j = 0 := by have : j < 1 := hj; omega
    obtain rfl : q = c := by simpa using hc
    exact h
theorem spK_bad {L : List (Int × Int)} {k : Nat} {q : Int × Int} (hq : L[k]? = some q) (h : ¬ OkSp (loAt L k) q) : ¬ SpK L L.length := fun g => h (g k q (List.getElem?_eq_some_iff.1 hq).1 hq)
theorem spK_bad5 {L : List (Int × Int)} {k : Nat} {q : Int × Int} (hs : SpK L k) (hk : k ≤ L.length) (hq : L[k]? = some q) (h : ¬ OkSp 5 q) : ¬ SpK L L.length := spK_bad hq fun g => h (by
  have := lo_bd hs hk
  unfold OkSp at *
  omega)
noncomputable instance spKdec (L : List (Int × Int)) (k : Nat) : Decidable (SpK L k) := Classical.propDecidable _
theorem lo_prev {L : List (Int × Int)} {k : Nat} {c : Int × Int} (h : 0 < k → L[k - 1]? = some c) : (k = 0 ∧ loAt L k = 5) ∨ (0 < k ∧ loAt L k = c.1 + c.2 + 1) := by
  rcases Nat.eq_zero_or_pos k with h0 | h0
  · subst h0; exact .inl ⟨rfl, rfl⟩
  · obtain ⟨j, rfl⟩ : ∃ j, k = j + 1 := ⟨k - 1, by omega⟩
    exact .inr ⟨h0, loAt_succ (h h0)⟩
theorem fitsSv_p (p i c dt n : Int) (w : World) :
    PureC Tryd.prog 39 [.agg #[.int .i64 p, .int .i64 i, .int .i64 c, .int .i64 dt], .int .i64 n] (.bool (decide (GoodSup p i c ∧ dt = 4 + i / 8 ∧ n = 512 * p))) w := by
 refine enter0 Tryd.func39 rfl Tryd.ntmps39 rfl ?_
 simp only [envOf]
 refine tR ?_
 refine At.box rfl rfl rfl (fun b1 => ?_)
 refine tA rfl rfl ?_
 refine tE ?_
 refine tR ?_
 refine At.val (Val.field 0 rfl fo_28_0 rfl) rfl rfl rfl ?_
 refine At.val (Val.load (i := 0) Tryd.isAgg3 rfl rfl rfl) rfl rfl rfl ?_
 refine At.val (Val.field 1 rfl fo_28_1 rfl) rfl rfl rfl ?_
 refine At.val (Val.load (i := 0) Tryd.isAgg3 rfl rfl rfl) rfl rfl rfl ?_
 refine At.val (Val.field 2 rfl fo_28_2 rfl) rfl rfl rfl ?_
 refine At.val (Val.load (i := 0) Tryd.isAgg3 rfl rfl rfl) rfl rfl rfl ?_
 refine At.val (Val.build (fun a ha => by simp only [List.map_toArray, List.map_cons, List.map_nil, ha.eval (x := (.tmp 9)) rfl, ha.eval (x := (.tmp 11)) rfl, ha.eval (x := (.tmp 13)) rfl] <;> rfl) (bld_109_0_1_2 _ _ _ )) rfl rfl rfl ?_
 refine At.callP (fun w hw => fit_p _ _ _ w) Tryd.call59 rfl rfl ?_
 by_cases hg : GoodSup p i c
 ·skip
  rw [fit_yes hg]
  have hg2 := hg
  unfold GoodSup at hg2
  refine tM rfl rfl ?_
  refine At.val (Val.extract rfl rfl) rfl rfl rfl ?_
  refine At.val (Val.extract rfl rfl) rfl rfl rfl ?_
  refine At.alloc Tryd.zeroValue28 rfl rfl (fun b2 => ?_)
  refine At.storeAll (i := 0) Tryd.sizeOf28 rfl rfl rfl (by simp [Value.oneCell']) rfl rfl ?_
  simp only [sc0, scS]
  refine tA rfl rfl ?_
  refine tE ?_
  refine tR ?_
  refine tM rfl rfl ?_
  refine At.val (Val.bin rfl rfl rfl) rfl rfl rfl ?_
  refine tM rfl rfl ?_
  refine At.yes rfl rfl ?_
  refine At.val (Val.loadAll (i := 0) Tryd.isAgg28 Tryd.sizeOf28 rfl rfl rfl) rfl rfl rfl ?_
  refine At.yes rfl rfl ?_
  refine At.val (Val.loadAll (i := 1) Tryd.isAgg28 Tryd.sizeOf28 rfl rfl rfl) rfl rfl rfl ?_
  refine At.yes rfl rfl ?_
  refine At.val (Val.eqAgg Tryd.eqGuardType28 (fun w => eq_28 _ _ _ _ _ _ _ _ w) rfl rfl) rfl rfl rfl ?_
  rw [eq_shape]
  refine At.val (Val.pickT rfl rfl) rfl rfl rfl ?_
  refine At.weaken [(0, _), (1, _), (2, _), (4, _), (8, _), (9, _), (10, _), (11, _), (12, _), (13, _), (14, _), (15, _), (7, _), (16, _), (17, _), (5, _), (24, _)] (Sub.cons rfl (Sub.cons rfl (Sub.cons rfl (Sub.cons rfl (Sub.cons rfl (Sub.cons rfl (Sub.cons rfl (Sub.cons rfl (Sub.cons rfl (Sub.cons rfl (Sub.cons rfl (Sub.cons rfl (Sub.cons rfl (Sub.cons rfl (Sub.cons rfl (Sub.cons rfl (Sub.cons rfl Sub.nil))))))))))))))))) ?_
  refine At.boolMeet 7 31 (decide (GoodSup p i c ∧ dt = 4 + i / 8 ∧ n = 512 * p)) ?_ ?_
  ·skip
   simp only [List.take_succ_cons, List.take_zero]
   refine tM rfl rfl ?_
   refine At.split (t := 25) rfl (fun h3 => ?_) (fun h3 => ?_)
   ·skip
    try simp only [hasB, isSizeB, Bool.not_eq_true', Bool.not_eq_false', bne_iff_ne, ne_eq, bne_eq_false_iff_eq, beq_iff_eq, beq_eq_false_iff_ne, decide_eq_true_eq, decide_eq_false_iff_not, gt_iff_lt, ge_iff_le] at h3
    refine At.yes rfl rfl ?_
    refine tM rfl rfl ?_
    refine At.yes rfl rfl ?_
    refine At.val (Val.field 0 rfl fo_28_0 rfl) rfl rfl rfl ?_
    refine At.yes rfl rfl ?_
    refine At.val (Val.load (i := 1) Tryd.isAgg3 rfl rfl rfl) rfl rfl rfl ?_
    refine At.yes rfl rfl ?_
    first | refine At.val (Val.mulI rfl rfl (by omega) (by omega)) rfl rfl rfl ?_ | refine At.val (Val.bin rfl rfl rfl) rfl rfl rfl ?_
    refine At.yes rfl rfl ?_
    refine At.val (Val.bin rfl rfl rfl) rfl rfl rfl ?_
    refine At.val (Val.pickT rfl rfl) rfl rfl rfl ?_
    refine At.nil ?_
    exact At.boolEnd rfl (by apply Bool.eq_iff_iff.2; (simp only [decide_eq_true_eq, Bool.false_eq_true, false_iff, true_iff, beq_iff_eq]) <;> first | omega | (constructor <;> intro h9 <;> first | exact ⟨hg, by omega, by omega⟩ | (have := h9.2; omega) | omega) | (intro h9; first | exact absurd h9.1 hg | omega)) (by repeat (first | exact Sub.nil | refine Sub.cons rfl ?_))
   ·skip
    try simp only [hasB, isSizeB, Bool.not_eq_true', Bool.not_eq_false', bne_iff_ne, ne_eq, bne_eq_false_iff_eq, beq_iff_eq, beq_eq_false_iff_ne, decide_eq_true_eq, decide_eq_false_iff_not, gt_iff_lt, ge_iff_le] at h3
    refine At.no rfl rfl rfl rfl ?_
    refine At.no rfl rfl rfl rfl ?_
    refine At.no rfl rfl rfl rfl ?_
    refine At.no rfl rfl rfl rfl ?_
    refine At.no rfl rfl rfl rfl ?_
    refine At.val (Val.pickF rfl rfl) rfl rfl rfl ?_
    refine At.nil ?_
    exact At.boolEnd rfl (by apply Bool.eq_iff_iff.2; (simp only [decide_eq_true_eq, Bool.false_eq_true, false_iff, true_iff, beq_iff_eq]) <;> first | omega | (constructor <;> intro h9 <;> first | exact ⟨hg, by omega, by omega⟩ | (have := h9.2; omega) | omega) | (intro h9; first | exact absurd h9.1 hg | omega)) (by repeat (first | exact Sub.nil | refine Sub.cons rfl ?_))
  ·skip
   simp only [List.drop_succ_cons, List.drop_zero]
   refine tA rfl rfl ?_
   refine tE ?_
   refine At.retC ?_
   refine At.ret1 (.inl rfl) rfl rfl rfl (fun w hw => ?_)
   exact ⟨rfl, hw.mod⟩
 ·skip
  rw [fit_no hg]
  refine tM rfl rfl ?_
  refine At.val (Val.extract rfl rfl) rfl rfl rfl ?_
  refine At.val (Val.extract rfl rfl) rfl rfl rfl ?_
  refine At.alloc Tryd.zeroValue28 rfl rfl (fun b4 => ?_)
  refine At.storeAll (i := 0) Tryd.sizeOf28 rfl rfl rfl (by simp [Value.oneCell']) rfl rfl ?_
  simp only [sc0, scS]
  refine tA rfl rfl ?_
  refine tE ?_
  refine tR ?_
  refine tM rfl rfl ?_
  refine At.val (Val.bin rfl rfl rfl) rfl rfl rfl ?_
  refine tM rfl rfl ?_
  refine At.no rfl rfl rfl rfl ?_
  refine At.no rfl rfl rfl rfl ?_
  refine At.no rfl rfl rfl rfl ?_
  refine At.val (Val.pickF rfl rfl) rfl rfl rfl ?_
  refine At.weaken [(0, _), (1, _), (2, _), (4, _), (8, _), (9, _), (10, _), (11, _), (12, _), (13, _), (14, _), (15, _), (7, _), (16, _), (17, _), (5, _), (24, _)] (Sub.cons rfl (Sub.cons rfl (Sub.cons rfl (Sub.cons rfl (Sub.cons rfl (Sub.cons rfl (Sub.cons rfl (Sub.cons rfl (Sub.cons rfl (Sub.cons rfl (Sub.cons rfl (Sub.cons rfl (Sub.cons rfl (Sub.cons rfl (Sub.cons rfl (Sub.cons rfl (Sub.cons rfl Sub.nil))))))))))))))))) ?_
  refine At.boolMeet 7 31 (decide (GoodSup p i c ∧ dt = 4 + i / 8 ∧ n = 512 * p)) ?_ ?_
  ·skip
   simp only [List.take_succ_cons, List.take_zero]
   refine tM rfl rfl ?_
   refine At.no rfl rfl rfl rfl ?_
   refine At.no rfl rfl rfl rfl ?_
   refine At.no rfl rfl rfl rfl ?_
   refine At.no rfl rfl rfl rfl ?_
   refine At.no rfl rfl rfl rfl ?_
   refine At.val (Val.pickF rfl rfl) rfl rfl rfl ?_
   refine At.nil ?_
   exact At.boolEnd rfl (by apply Bool.eq_iff_iff.2; (simp only [decide_eq_true_eq, Bool.false_eq_true, false_iff, true_iff, beq_iff_eq]) <;> first | omega | (constructor <;> intro h9 <;> first | exact ⟨hg, by omega, by omega⟩ | (have := h9.2; omega) | omega) | (intro h9; first | exact absurd h9.1 hg | omega)) (by repeat (first | exact Sub.nil | refine Sub.cons rfl ?_))
  ·skip
   simp only [List.drop_succ_cons, List.drop_zero]
   refine tA rfl rfl ?_
   refine tE ?_
   refine At.retC ?_
   refine At.ret1 (.inl rfl) rfl rfl rfl (fun w hw => ?_)
   exact ⟨rfl, hw.mod⟩
theorem sameSp_p (v u : Value) (L M : List (Int × Int)) (w : World) (hv : RdS w v L) (hu : RdS w u M) (hl : L.length ≤ 8796093022144) (hm : M.length ≤ 8796093022144) :
    PureC Tryd.prog 42 [v, u] (.bool (decide (L = M))) w := by
 refine enter0 Tryd.func42 rfl Tryd.ntmps42 rfl ?_
 simp only [envOf]
 refine tR ?_
 refine tA rfl rfl ?_
 refine tE ?_
 refine At.seq ?_
 refine tR ?_
 refine tM rfl rfl ?_
 refine At.val (Val.lenRd hv Tryd.underlying30 rfl) rfl rfl rfl ?_
 refine tM rfl rfl ?_
 refine At.val (Val.lenRd hu Tryd.underlying30 rfl) rfl rfl rfl ?_
 refine At.val (Val.bin rfl rfl rfl) rfl rfl rfl ?_
 refine tE ?_
 refine At.cond rfl (fun h1 => ?_) (fun h1 => ?_)
 ·skip
  try simp only [hasB, isSizeB, Bool.not_eq_true', Bool.not_eq_false', bne_iff_ne, ne_eq, bne_eq_false_iff_eq, beq_iff_eq, beq_eq_false_iff_ne, decide_eq_true_eq, decide_eq_false_iff_not, gt_iff_lt, ge_iff_le] at h1
  refine tR ?_
  refine tA rfl rfl ?_
  refine tE ?_
  refine At.retC ?_
  refine At.thenR ?_
  refine At.ret1 (.inl rfl) rfl rfl rfl (fun w hw => ?_)
  exact ⟨retB (decide_eq_false (fun e => ‹¬ (L.length : Int) = M.length› (by rw [e]))).symm, hw.mod⟩
 ·skip
  try simp only [hasB, isSizeB, Bool.not_eq_true', Bool.not_eq_false', bne_iff_ne, ne_eq, bne_eq_false_iff_eq, beq_iff_eq, beq_eq_false_iff_ne, decide_eq_true_eq, decide_eq_false_iff_not, gt_iff_lt, ge_iff_le] at h1
  have hn : L.length = M.length := by omega
  refine At.skipC ?_
  refine At.thenN ?_
  refine At.seq ?_
  refine tR ?_
  refine tM rfl rfl ?_
  refine At.val (Val.lenRd hv Tryd.underlying30 rfl) rfl rfl rfl ?_
  refine tM rfl rfl ?_
  refine tE ?_
  refine At.block ?_
  skip
  refine At.loop (σ := Nat) (fun k => k ≤ L.length ∧ L.take k = M.take k) (fun k => [(0, v), (1, u), (12, .int .i64 (L.length : Int)), (13, .int .i64 (k : Int))]) (fun k => []) (fun k => L.length - k) 0 ⟨Nat.zero_le _, rfl⟩ (Sub.cons rfl (Sub.cons rfl (Sub.cons rfl (Sub.cons rfl Sub.nil)))) (List.Perm.refl _) ?_
  intro k hs
  refine tR ?_
  refine At.val (Val.bin rfl rfl rfl) rfl rfl rfl ?_
  refine tE ?_
  refine At.seq ?_
  refine At.cond rfl (fun h2 => ?_) (fun h2 => ?_)
  ·skip
   try simp only [hasB, isSizeB, Bool.not_eq_true', Bool.not_eq_false', bne_iff_ne, ne_eq, bne_eq_false_iff_eq, beq_iff_eq, beq_eq_false_iff_ne, decide_eq_true_eq, decide_eq_false_iff_not, gt_iff_lt, ge_iff_le] at h2
   refine At.skipC ?_
   refine At.thenN ?_
   refine At.seq ?_
   refine At.block ?_
   refine tR ?_
   refine tM rfl rfl ?_
   refine tA rfl rfl ?_
   refine tE ?_
   refine At.seq ?_
   refine At.quiet rfl (by decide +kernel) ?_
   refine qM rfl rfl ?_
   refine qM rfl rfl ?_
   refine QAt.idxS hv Tryd.underlying30 Tryd.sizeOf51 rfl rfl (by omega) (by omega) rfl rfl (fun b3 o4 q5 hq6 hc7 hd8 => ?_)
   refine QAt.val (Val.loadSpan Tryd.isAgg51 Tryd.sizeOf51 rfl hc7 hd8 (fun h => h)) rfl rfl rfl ?_
   refine qM rfl rfl ?_
   refine qM rfl rfl ?_
   refine QAt.idxS hu Tryd.underlying30 Tryd.sizeOf51 rfl rfl (by omega) (by omega) rfl rfl (fun b9 o10 q11 hq12 hc13 hd14 => ?_)
   refine QAt.val (Val.loadSpan Tryd.isAgg51 Tryd.sizeOf51 rfl hc13 hd14 (fun h => h)) rfl rfl rfl ?_
   have hqa : L[k]? = some q5 := by have h1 := hq6; rwa [Int.toNat_natCast] at h1
   have hqb : M[k]? = some q11 := by have h1 := hq12; rwa [Int.toNat_natCast] at h1
   refine QAt.val (Val.neAgg Tryd.eqGuardType51 (fun w => eq_51 _ _ _ _ w) rfl rfl) rfl rfl rfl ?_
   rw [ne_span]
   refine QAt.fin ?_
   refine At.thenN ?_
   refine At.cond rfl (fun h15 => ?_) (fun h15 => ?_)
   ·skip
    try simp only [hasB, isSizeB, Bool.not_eq_true', Bool.not_eq_false', bne_iff_ne, ne_eq, bne_eq_false_iff_eq, beq_iff_eq, beq_eq_false_iff_ne, decide_eq_true_eq, decide_eq_false_iff_not, gt_iff_lt, ge_iff_le] at h15
    have hne := h15
    refine tR ?_
    refine tA rfl rfl ?_
    refine tE ?_
    refine At.retC ?_
    refine At.blkR ?_
    refine At.thenR ?_
    refine At.thenR ?_
    refine At.blkR ?_
    refine At.thenR ?_
    refine At.ret1 (.inl rfl) rfl rfl rfl (fun w hw => ?_)
    exact ⟨retB (decide_eq_false (fun e => by subst e; rw [hqa] at hqb; exact hne (Option.some.inj hqb))).symm, hw.mod⟩
   ·skip
    try simp only [hasB, isSizeB, Bool.not_eq_true', Bool.not_eq_false', bne_iff_ne, ne_eq, bne_eq_false_iff_eq, beq_iff_eq, beq_eq_false_iff_ne, decide_eq_true_eq, decide_eq_false_iff_not, gt_iff_lt, ge_iff_le] at h15
    have heq := Classical.not_not.1 h15
    refine At.skipC ?_
    refine At.blkN ?_
    refine At.thenN ?_
    refine At.region ?_
    first | refine At.val (Val.addI rfl rfl (by omega) (by omega)) rfl rfl rfl ?_ | refine At.val (Val.bin rfl rfl rfl) rfl rfl rfl ?_
    refine tM rfl rfl ?_
    refine tE ?_
    exact At.again (k + 1) ⟨by omega, by rw [List.take_add_one, List.take_add_one, hs.2, hqa, hqb, heq]⟩ (by omega) (Sub.cons rfl (Sub.cons rfl (Sub.cons rfl (Sub.cons (congrArg (fun z => some (Value.int IntKind.i64 z)) (by omega)) Sub.nil)))) (List.Perm.refl _)
  ·skip
   try simp only [hasB, isSizeB, Bool.not_eq_true', Bool.not_eq_false', bne_iff_ne, ne_eq, bne_eq_false_iff_eq, beq_iff_eq, beq_eq_false_iff_ne, decide_eq_true_eq, decide_eq_false_iff_not, gt_iff_lt, ge_iff_le] at h2
   refine At.exitC ?_
   refine At.thenX ?_
   refine At.thenX ?_
   refine At.blkX ?_
   refine At.thenN ?_
   refine tR ?_
   refine tA rfl rfl ?_
   refine tE ?_
   refine At.retC ?_
   refine At.ret1 (.inl rfl) rfl rfl rfl (fun w hw => ?_)
   exact ⟨retB (decide_eq_true (by have h1 := hs.2; rw [List.take_of_length_le (by omega), List.take_of_length_le (by omega)] at h1; exact h1)).symm, hw.mod⟩
theorem areGood_p (v : Value) (L : List (Int × Int)) (w : World) (ht : Tab w) (hv : RdS w v L) (hlen : L.length ≤ 8796093022144) :
    PureC Tryd.prog 30 [v] (.bool (decide (SpK L L.length))) w := by
 refine enter0 Tryd.func30 rfl Tryd.ntmps30 rfl ?_
 simp only [envOf]
 refine tR ?_
 refine tA rfl rfl ?_
 refine tE ?_
 refine At.seq ?_
 refine tR ?_
 refine tM rfl rfl ?_
 refine At.val (Val.lenRd hv Tryd.underlying30 rfl) rfl rfl rfl ?_
 refine tM rfl rfl ?_
 refine tE ?_
 refine At.block ?_
 skip
 refine At.loop (σ := Nat) (fun k => k ≤ L.length ∧ SpK L k) (fun k => [(0, v), (8, v), (9, .int .i64 (L.length : Int)), (10, .int .i64 (k : Int))]) (fun k => []) (fun k => L.length - k) 0 ⟨Nat.zero_le _, spK_0 L⟩ (Sub.cons rfl (Sub.cons rfl (Sub.cons rfl (Sub.cons rfl Sub.nil)))) (List.Perm.refl _) ?_
 intro k hs
 refine tR ?_
 refine At.val (Val.bin rfl rfl rfl) rfl rfl rfl ?_
 refine tE ?_
 refine At.seq ?_
 refine At.cond rfl (fun h1 => ?_) (fun h1 => ?_)
 ·skip
  try simp only [hasB, isSizeB, Bool.not_eq_true', Bool.not_eq_false', bne_iff_ne, ne_eq, bne_eq_false_iff_eq, beq_iff_eq, beq_eq_false_iff_ne, decide_eq_true_eq, decide_eq_false_iff_not, gt_iff_lt, ge_iff_le] at h1
  obtain ⟨qk, hqk⟩ : ∃ q, L[k]? = some q := ⟨_, List.getElem?_eq_getElem (by omega)⟩
  refine At.skipC ?_
  refine At.thenN ?_
  refine At.seq ?_
  refine At.block ?_
  refine tR ?_
  refine tM rfl rfl ?_
  refine At.idxS hv Tryd.underlying30 Tryd.sizeOf51 rfl rfl (by omega) (by omega) rfl rfl (fun b2 o3 q4 hq5 hc6 hd7 => ?_)
  have hqe : qk = q4 := by have h8 := hq5; rw [Int.toNat_natCast, hqk] at h8; exact Option.some.inj h8
  subst hqe
  refine At.val (Val.loadSpan Tryd.isAgg51 Tryd.sizeOf51 rfl hc6 hd7 (fun h => h)) rfl rfl rfl ?_
  refine At.alloc Tryd.zeroValue51 rfl rfl (fun b8 => ?_)
  refine tA rfl rfl ?_
  refine At.storeAll (i := 0) Tryd.sizeOf51 rfl rfl rfl (by simp [Value.oneCell']) rfl rfl ?_
  simp only [sc0, scS]
  refine tE ?_
  refine tR ?_
  refine At.val (Val.loadAll (i := 0) Tryd.isAgg51 Tryd.sizeOf51 rfl rfl rfl) rfl rfl rfl ?_
  refine At.buildRow (fun a ha => by simp only [List.map_toArray, List.map_cons, List.map_nil, ha.eval (x := (.tmp 15)) rfl]; try rfl) (bs_30_1 _ _ ) 2 rfl (by decide) rfl (fun v9 => ?_)
  change At _ _ (srow 51 v9 [qk] :: _) _
  refine At.rowIs (i := 0) rfl (fun A10 c11 hv => ?_)
  subst hv
  refine At.val (Val.build (fun a ha => by simp only [List.map_toArray, List.map_cons, List.map_nil, ha.eval (x := (.const (.int .u32 (1)))) rfl, ha.eval (x := (.tmp 16)) rfl] <;> rfl) (bld_76_0_1 _ _ _ _ )) rfl rfl rfl ?_
  refine At.alloc Tryd.zeroValue76 rfl rfl (fun b12 => ?_)
  refine At.rowOne (i := 1) rfl (fun ho13 => ?_)
  refine At.storeAll (i := 0) Tryd.sizeOf76 rfl rfl rfl (by intro u hu; simp only [List.mem_cons, List.not_mem_nil, or_false] at hu; rcases hu with rfl | rfl <;> first | rfl | assumption) rfl rfl ?_
  simp only [sc0, scS]
  refine tE ?_
  refine At.seq ?_
  refine tR ?_
  refine At.val (Val.loadAll (i := 0) Tryd.isAgg76 Tryd.sizeOf76 rfl rfl rfl) rfl rfl rfl ?_
  refine At.callNT (g := (fun v => .tuple #[v, .int .i64 (svE 1 [qk])])) (fun w hw => packSv_n 1 _ [qk] w (row_rd (hw.row (i := 1) rfl) (by decide)) (by show 1 ≤ 8796093022144; decide) (ht.mod hw.mod)) Tryd.call33 rfl rfl (fun v14 => ?_)
  by_cases hg : GoodSv 1 [qk]
  ·skip
   rw [svE_T hg]
   refine tM rfl rfl ?_
   refine At.val (Val.extract rfl rfl) rfl rfl rfl ?_
   refine At.val (Val.extract rfl rfl) rfl rfl rfl ?_
   refine tA rfl rfl ?_
   refine tA rfl rfl ?_
   refine tE ?_
   refine tR ?_
   refine tM rfl rfl ?_
   refine At.val (Val.bin rfl rfl rfl) rfl rfl rfl ?_
   refine tE ?_
   refine At.condF rfl ?_
   refine At.skipC ?_
   refine At.thenN ?_
   refine At.seq ?_
   obtain ⟨c0, hc0⟩ : ∃ c0 : Int × Int, 0 < k → L[k - 1]? = some c0 := by
     rcases Nat.eq_zero_or_pos k with h | h
     · exact ⟨(0, 0), fun h' => by omega⟩
     · exact ⟨_, fun _ => List.getElem?_eq_getElem (show k - 1 < L.length by omega)⟩
   have hlo := lo_prev hc0
   have hlb := lo_bd hs.2 hs.1
   have hok5 := (good1 _).1 hg
   have hok6 := hok5
   unfold OkSp at hok6
   refine At.quiet rfl (by decide +kernel) ?_
   refine qM rfl rfl ?_
   refine QAt.val (Val.bin rfl rfl rfl) rfl rfl rfl ?_
   refine QAt.weaken [(0, _), (8, _), (9, _), (10, _), (11, _), (12, _), (13, _), (14, _), (4, _), (3, _), (15, _), (16, _), (17, _), (5, _), (19, _), (20, _), (18, _), (21, _), (22, _), (7, _), (23, _), (24, _), (26, _)] (Sub.cons rfl (Sub.cons rfl (Sub.cons rfl (Sub.cons rfl (Sub.cons rfl (Sub.cons rfl (Sub.cons rfl (Sub.cons rfl (Sub.cons rfl (Sub.cons rfl (Sub.cons rfl (Sub.cons rfl (Sub.cons rfl (Sub.cons rfl (Sub.cons rfl (Sub.cons rfl (Sub.cons rfl (Sub.cons rfl (Sub.cons rfl (Sub.cons rfl (Sub.cons rfl (Sub.cons rfl (Sub.cons rfl Sub.nil))))))))))))))))))))))) ?_
   refine QAt.boolMeet 18 44 (decide (¬ OkSp (loAt L k) qk)) ?_ ?_
   ·skip
    simp only [List.take_succ_cons, List.take_zero]
    refine qM rfl rfl ?_
    refine QAt.split (t := 27) rfl (fun h15 => ?_) (fun h15 => ?_)
    ·skip
     try simp only [hasB, isSizeB, Bool.not_eq_true', Bool.not_eq_false', bne_iff_ne, ne_eq, bne_eq_false_iff_eq, beq_iff_eq, beq_eq_false_iff_ne, decide_eq_true_eq, decide_eq_false_iff_not, gt_iff_lt, ge_iff_le] at h15
     refine QAt.yes rfl rfl ?_
     refine QAt.val (Val.field 0 rfl fo_51_0 rfl) rfl rfl rfl ?_
     refine QAt.yes rfl rfl ?_
     refine QAt.val (Val.load (i := 3) Tryd.isAgg3 rfl rfl rfl) rfl rfl rfl ?_
     refine QAt.yes rfl rfl ?_
     refine qM rfl rfl ?_
     refine QAt.yes rfl rfl ?_
     refine qM rfl rfl ?_
     refine QAt.yes rfl rfl ?_
     first | refine QAt.val (Val.subI rfl rfl (by omega) (by omega)) rfl rfl rfl ?_ | refine QAt.val (Val.bin rfl rfl rfl) rfl rfl rfl ?_
     refine QAt.yes rfl rfl ?_
     refine QAt.idxS hv Tryd.underlying30 Tryd.sizeOf51 rfl rfl (by omega) (by omega) rfl rfl (fun b16 o17 q18 hq19 hc20 hd21 => ?_)
     have hqe : c0 = q18 := by have h9 := hc0 (by omega); have h8 := hq19; rw [show ((k : Int) - 1).toNat = k - 1 by omega, h9] at h8; exact Option.some.inj h8
     subst hqe
     refine QAt.yes rfl rfl ?_
     refine QAt.val (Val.field o17 rfl fo_51_0 rfl) rfl rfl rfl ?_
     refine QAt.yes rfl rfl ?_
     refine QAt.val (Val.loadOld Tryd.isAgg3 rfl hc20 (fun h => h)) rfl rfl rfl ?_
     refine QAt.yes rfl rfl ?_
     refine qM rfl rfl ?_
     refine QAt.yes rfl rfl ?_
     refine qM rfl rfl ?_
     refine QAt.yes rfl rfl ?_
     first | refine QAt.val (Val.subI rfl rfl (by omega) (by omega)) rfl rfl rfl ?_ | refine QAt.val (Val.bin rfl rfl rfl) rfl rfl rfl ?_
     refine QAt.yes rfl rfl ?_
     refine QAt.idxS hv Tryd.underlying30 Tryd.sizeOf51 rfl rfl (by omega) (by omega) rfl rfl (fun b22 o23 q24 hq25 hc26 hd27 => ?_)
     have hqe : c0 = q24 := by have h9 := hc0 (by omega); have h8 := hq25; rw [show ((k : Int) - 1).toNat = k - 1 by omega, h9] at h8; exact Option.some.inj h8
     subst hqe
     refine QAt.yes rfl rfl ?_
     refine QAt.val (Val.field (o23 + 1) rfl fo_51_1 rfl) rfl rfl rfl ?_
     refine QAt.yes rfl rfl ?_
     refine QAt.val (Val.loadOld Tryd.isAgg3 rfl hd27 (fun h => h)) rfl rfl rfl ?_
     refine QAt.yes rfl rfl ?_
     first | refine QAt.val (Val.addI rfl rfl (by omega) (by omega)) rfl rfl rfl ?_ | refine QAt.val (Val.bin rfl rfl rfl) rfl rfl rfl ?_
     refine QAt.yes rfl rfl ?_
     refine QAt.val (Val.bin rfl rfl rfl) rfl rfl rfl ?_
     refine QAt.val (Val.pickT rfl rfl) rfl rfl rfl ?_
     exact QAt.boolEnd rfl (by first | (apply Bool.eq_iff_iff.2; simp only [decide_eq_true_eq, Bool.false_eq_true, false_iff, true_iff]; unfold OkSp at *; omega) | omega) (by repeat (first | exact Sub.nil | refine Sub.cons rfl ?_))
    ·skip
     try simp only [hasB, isSizeB, Bool.not_eq_true', Bool.not_eq_false', bne_iff_ne, ne_eq, bne_eq_false_iff_eq, beq_iff_eq, beq_eq_false_iff_ne, decide_eq_true_eq, decide_eq_false_iff_not, gt_iff_lt, ge_iff_le] at h15
     refine QAt.no rfl rfl rfl rfl ?_
     refine QAt.no rfl rfl rfl rfl ?_
     refine QAt.no rfl rfl rfl rfl ?_
     refine QAt.no rfl rfl rfl rfl ?_
     refine QAt.no rfl rfl rfl rfl ?_
     refine QAt.no rfl rfl rfl rfl ?_
     refine QAt.no rfl rfl rfl rfl ?_
     refine QAt.no rfl rfl rfl rfl ?_
     refine QAt.no rfl rfl rfl rfl ?_
     refine QAt.no rfl rfl rfl rfl ?_
     refine QAt.no rfl rfl rfl rfl ?_
     refine QAt.no rfl rfl rfl rfl ?_
     refine QAt.no rfl rfl rfl rfl ?_
     refine QAt.no rfl rfl rfl rfl ?_
     refine QAt.no rfl rfl rfl rfl ?_
     refine QAt.no rfl rfl rfl rfl ?_
     refine QAt.val (Val.pickF rfl rfl) rfl rfl rfl ?_
     exact QAt.boolEnd rfl (by first | (apply Bool.eq_iff_iff.2; simp only [decide_eq_true_eq, Bool.false_eq_true, false_iff, true_iff]; unfold OkSp at *; omega) | omega) (by repeat (first | exact Sub.nil | refine Sub.cons rfl ?_))
   ·skip
    simp only [List.drop_succ_cons, List.drop_zero]
    refine QAt.fin ?_
    refine At.thenN ?_
    refine At.cond rfl (fun h28 => ?_) (fun h28 => ?_)
    ·skip
     try simp only [hasB, isSizeB, Bool.not_eq_true', Bool.not_eq_false', bne_iff_ne, ne_eq, bne_eq_false_iff_eq, beq_iff_eq, beq_eq_false_iff_ne, decide_eq_true_eq, decide_eq_false_iff_not, gt_iff_lt, ge_iff_le] at h28
     have hno : ¬ OkSp (loAt L k) qk := h28
     refine tR ?_
     refine tA rfl rfl ?_
     refine tE ?_
     refine At.retC ?_
     refine At.blkR ?_
     refine At.thenR ?_
     refine At.thenR ?_
     refine At.blkR ?_
     refine At.thenR ?_
     refine At.ret1 (.inl rfl) rfl rfl rfl (fun w hw => ?_)
     exact ⟨retB (decide_eq_false (spK_bad hqk hno)).symm, hw.mod⟩
    ·skip
     try simp only [hasB, isSizeB, Bool.not_eq_true', Bool.not_eq_false', bne_iff_ne, ne_eq, bne_eq_false_iff_eq, beq_iff_eq, beq_eq_false_iff_ne, decide_eq_true_eq, decide_eq_false_iff_not, gt_iff_lt, ge_iff_le] at h28
     have hyes : OkSp (loAt L k) qk := Classical.not_not.1 h28
     refine At.skipC ?_
     refine At.blkN ?_
     refine At.thenN ?_
     refine At.drop 2 ?_
     simp only [ec0, ecS]
     refine At.drop 0 ?_
     simp only [ec0, ecS]
     refine At.region ?_
     first | refine At.val (Val.addI rfl rfl (by omega) (by omega)) rfl rfl rfl ?_ | refine At.val (Val.bin rfl rfl rfl) rfl rfl rfl ?_
     refine tM rfl rfl ?_
     refine tE ?_
     refine At.drop 1 ?_
     simp only [ec0, ecS]
     refine At.drop 0 ?_
     simp only [ec0, ecS]
     exact At.again (k + 1) ⟨by omega, spK_succ hs.2 hqk hyes⟩ (by omega) (Sub.cons rfl (Sub.cons rfl (Sub.cons rfl (Sub.cons (congrArg (fun z => some (Value.int IntKind.i64 z)) (by omega)) Sub.nil)))) (List.Perm.refl _)
  ·skip
   rw [svE_F hg]
   refine tM rfl rfl ?_
   refine At.val (Val.extract rfl rfl) rfl rfl rfl ?_
   refine At.val (Val.extract rfl rfl) rfl rfl rfl ?_
   refine tA rfl rfl ?_
   refine tA rfl rfl ?_
   refine tE ?_
   refine tR ?_
   refine tM rfl rfl ?_
   refine At.val (Val.bin rfl rfl rfl) rfl rfl rfl ?_
   refine tE ?_
   refine At.condT rfl ?_
   refine tR ?_
   refine tA rfl rfl ?_
   refine tE ?_
   refine At.retC ?_
   refine At.thenR ?_
   refine At.blkR ?_
   refine At.thenR ?_
   refine At.thenR ?_
   refine At.blkR ?_
   refine At.thenR ?_
   refine At.ret1 (.inl rfl) rfl rfl rfl (fun w hw => ?_)
   exact ⟨retB (decide_eq_false (spK_bad5 hs.2 hs.1 hqk (fun h => hg ((good1 _).2 h)))).symm, hw.mod⟩
 ·skip
  try simp only [hasB, isSizeB, Bool.not_eq_true', Bool.not_eq_false', bne_iff_ne, ne_eq, bne_eq_false_iff_eq, beq_iff_eq, beq_eq_false_iff_ne, decide_eq_true_eq, decide_eq_false_iff_not, gt_iff_lt, ge_iff_le] at h1
  refine At.exitC ?_
  refine At.thenX ?_
  refine At.thenX ?_
  refine At.blkX ?_
  refine At.thenN ?_
  refine tR ?_
  refine tA rfl rfl ?_
  refine tE ?_
  refine At.retC ?_
  refine At.ret1 (.inl rfl) rfl rfl rfl (fun w hw => ?_)
  exact ⟨retB (decide_eq_true (by have h9 := hs.2; rwa [show k = L.length by omega] at h9)).symm, hw.mod⟩
end Go.Proofs.YtpihenmdkoojdaaDoor
set_option linter.unusedVariables false
set_option linter.unusedSimpArgs false
namespace Go.Proofs.YtpihenmdkoojdaaDoor
open Go Go.Wk
/-- The clean word made v; the record's bytes written: flushed and fenced. -/
def cleanA (v : BitVec 32) : List Ac := [.st 16 (sealW (BitVec.ofInt 64 128) v), .fl 2, .fe]
def recS (b : List UInt8) : List Ac := stA 128 (wordsL b (b.length / 8))
def recF (b : List UInt8) : List Ac := flA 16 (cntL 1024 b.length)
def recA (b : List UInt8) : List Ac := recS b ++ (recF b ++ [.fe])
theorem cleanA_ok {n : Nat} (v : BitVec 32) (h : 16 < n) : ∀ a ∈ cleanA v, AcOk n a := by
  intro a ha
  rcases List.mem_cons.1 ha with rfl | ha
  · exact h
  rcases List.mem_cons.1 ha with rfl | ha
  · show 8 * 2 < n; omega
  · rw [List.mem_singleton.1 ha]; trivial
theorem cntR_le (b : List UInt8) (h : b.length ≤ 1024) : cntL 1024 b.length ≤ 16 := by unfold cntL; split <;> omega
theorem cntL_in {n : Nat} (b : List UInt8) (h : 1024 + b.length ≤ 8 * n) : 8 * (16 + cntL 1024 b.length) < n + 8 := by unfold cntL; split <;> omega
theorem recS_ok {n : Nat} (b : List UInt8) (h : 1024 + b.length ≤ 8 * n) : ∀ a ∈ recS b, AcOk n a := stA_ok _ _ (by rw [wordsL_length]; omega)
theorem recF_ok {n : Nat} (b : List UInt8) (h : 1024 + b.length ≤ 8 * n) (h0 : 0 < n) : ∀ a ∈ recF b, AcOk n a := flA_ok _ _ (cntL_in b h)
theorem recA_ok {n : Nat} (b : List UInt8) (h : 1024 + b.length ≤ 8 * n) (h0 : 0 < n) : ∀ a ∈ recA b, AcOk n a := by
  intro a ha
  unfold recA at ha
  rcases List.mem_append.1 ha with ha | ha
  · exact recS_ok b h a ha
  rcases List.mem_append.1 ha with ha | ha
  · exact recF_ok b h h0 a ha
  · rw [List.mem_singleton.1 ha]; trivial
theorem recS_len (b : List UInt8) : (recS b).length = b.length / 8 := by unfold recS; rw [stA_len, wordsL_length]
theorem recF_len (b : List UInt8) (h : b.length ≤ 1024) : (recF b).length ≤ 16 := by unfold recF; rw [flA_len]; exact cntR_le b h
theorem recA_len (b : List UInt8) (h : b.length ≤ 1024) : (recA b).length ≤ 145 := by
  unfold recA
  rw [List.length_append, List.length_append, recS_len, List.length_singleton]
  have := recF_len b h
  omega
def nowAt (σ : Ds) (k : Nat) : BitVec 64 := match σ.ws[k]? with | some w => nowW w | none => 0
theorem nowAt_some {σ : Ds} {k : Nat} {w : Wd} (h : σ.ws[k]? = some w) : nowAt σ k = nowW w := by unfold nowAt; rw [h]
noncomputable def stampD (σ : Ds) : BitVec 32 := nextT (wbytes (viewWs σ.ws))
noncomputable def saveF (σ : Ds) : List Ac := if nowAt σ 16 = 0 then [] else cleanA 0
noncomputable def saveA (σ : Ds) (L : List (Int × Int)) : List Ac := saveF σ ++ (recA (svB (stampD σ) L) ++ cleanA (stampD σ))
/-- Save: its answers and the device behind it. -/
noncomputable def saveE (σ : Ds) (L : List (Int × Int)) : Bool × Int × Ds :=
  if ¬ SpK L L.length then (false, 36, σ) else if 8 * σ.ws.length < 2048 then (false, 11, σ) else if 249 < L.length then (false, 0, σ) else (decide ((actsE σ (saveA σ L)).1 = 0), (actsE σ (saveA σ L)).1, (actsE σ (saveA σ L)).2)
theorem svB_le {t : BitVec 32} {L : List (Int × Int)} (h : L.length ≤ 249) : (svB t L).length ≤ 1024 ∧ (svB t L).length % 8 = 0 := by rw [svB_length]; omega
theorem pair_eq {α β : Type} {x : α × β} {a : α} (h : x.1 = a) : x = (a, x.2) := Prod.ext h rfl
theorem setClean_d (p : Nat) (γ : Gh) (σ : Ds) (v : BitVec 32) (w : World) (ht : Tab w) (hf : ¬ feet [Dev p γ σ] 0) (hn : 16 < σ.ws.length) (hst : σ.steps + 3 ≤ 10000000000000) (hd : (Dev p γ σ).holds w) :
    DevU Tryd.prog 36 [.pointer (some ⟨p, 0, none⟩), b32 v] p γ σ (.int .i64 (actsE σ (cleanA v)).1) (actsE σ (cleanA v)).2 w := by
 refine enterVc hd Tryd.func36 rfl Tryd.ntmps36 rfl ?_
 have hgd := Dev.good hd
 obtain ⟨wd, hwd⟩ : ∃ wd, σ.ws[16]? = some wd := ⟨_, List.getElem?_eq_getElem hn⟩
 obtain ⟨X, hX⟩ : ∃ X, X = (sealW (BitVec.ofInt 64 128) v) := ⟨_, rfl⟩
 obtain ⟨a1, a2, a3⟩ := storeD_rest X hn
 obtain ⟨b1, b2, b3⟩ := lineD_rest (storeD σ 16 X) 2
 simp only [envOf]
 refine tR ?_
 refine tA rfl rfl ?_
 refine tE ?_
 refine At.seq ?_
 refine tR ?_
 refine tM rfl rfl ?_
 refine tM rfl rfl ?_
 refine At.callP (fun w hw => seal_p 128 v w (ht.modS hw.mod hf)) Tryd.call57 rfl rfl ?_
 rw [← hX]
 cases hd1 : deadB σ
 ·skip
  refine At.callD 0 rfl (fun w hw hr => (storeD_some (x := X) hwd) ▸ store_d _ _ _ 16 wd X w hwd (by omega) hd1 hr) Tryd.call27 rfl rfl (fun y1 => ?_)
  simp only [sc0, scS]
  refine tA rfl rfl ?_
  refine tE ?_
  refine tR ?_
  refine tM rfl rfl ?_
  refine At.val (Val.bin rfl rfl rfl) rfl rfl rfl ?_
  refine tE ?_
  refine At.condF rfl ?_
  refine At.skipC ?_
  refine At.thenN ?_
  refine At.seq ?_
  refine tR ?_
  refine tM rfl rfl ?_
  cases hd2 : deadB (storeD σ 16 X)
  ·skip
   refine At.callD 0 rfl (fun w hw hr => flush_d _ _ _ 128 (8 * 2) w (by omega) (by omega) (by omega) (by omega) hd2 hr) Tryd.call51 rfl rfl (fun y2 => ?_)
   simp only [sc0, scS]
   refine tA rfl rfl ?_
   refine tE ?_
   refine tR ?_
   refine tM rfl rfl ?_
   refine At.val (Val.bin rfl rfl rfl) rfl rfl rfl ?_
   refine tE ?_
   refine At.condF rfl ?_
   refine At.skipC ?_
   refine At.thenN ?_
   refine tR ?_
   refine tM rfl rfl ?_
   cases hd3 : deadB (lineD (storeD σ 16 X) 2)
   ·skip
    refine At.callD 0 rfl (fun w hw hr => fence_d _ _ (lineD (storeD σ 16 X) 2) w (by omega) hd3 hr) Tryd.call29 rfl rfl (fun y3 => ?_)
    simp only [sc0, scS]
    refine tA rfl rfl ?_
    refine tE ?_
    refine At.retC ?_
    refine At.ret1 (.inl rfl) rfl rfl rfl (fun w hw => ?_)
    have e : actsE σ (cleanA v) = (0, fenceD (stepD (lineD (storeD σ 16 X) 2))) := by unfold cleanA; rw [← hX, actsE_live hd1, actsE_live (a := .fl 2) (σ := stepA σ (.st 16 X)) hd2, actsE_live (a := .fe) (σ := stepA (stepA σ (.st 16 X)) (.fl 2)) hd3]; rfl
    rw [e]
    exact ⟨_, rfl, hw⟩
   ·skip
    refine At.callK 0 rfl (fun w hw hr => fence_0 _ _ _ w hd3 hr) Tryd.call29 rfl rfl ?_
    refine tA rfl rfl ?_
    refine tE ?_
    refine At.retC ?_
    refine At.ret1 (.inl rfl) rfl rfl rfl (fun w hw => ?_)
    have e : actsE σ (cleanA v) = (13, lineD (storeD σ 16 X) 2) := by unfold cleanA; rw [← hX, actsE_live hd1, actsE_live (a := .fl 2) (σ := stepA σ (.st 16 X)) hd2, actsE_dead (a := .fe) (σ := stepA (stepA σ (.st 16 X)) (.fl 2)) hd3]; rfl
    rw [e]
    exact ⟨_, rfl, hw⟩
  ·skip
   refine At.callK 0 rfl (fun w hw hr => flush_0 _ _ _ _ w (by omega) (by omega) hd2 hr) Tryd.call51 rfl rfl ?_
   refine tA rfl rfl ?_
   refine tE ?_
   refine tR ?_
   refine tM rfl rfl ?_
   refine At.val (Val.bin rfl rfl rfl) rfl rfl rfl ?_
   refine tE ?_
   refine At.condT rfl ?_
   refine tR ?_
   refine tM rfl rfl ?_
   refine tA rfl rfl ?_
   refine tE ?_
   refine At.retC ?_
   refine At.thenR ?_
   refine At.ret1 (.inl rfl) rfl rfl rfl (fun w hw => ?_)
   have e : actsE σ (cleanA v) = (13, storeD σ 16 X) := by unfold cleanA; rw [← hX, actsE_live hd1, actsE_dead (a := .fl 2) (σ := stepA σ (.st 16 X)) hd2]; rfl
   rw [e]
   exact ⟨_, rfl, hw⟩
 ·skip
  refine At.callK 0 rfl (fun w hw hr => store_0 _ _ _ _ _ w (place_at' (by omega) (by omega) (by omega)) hd1 hr) Tryd.call27 rfl rfl ?_
  refine tA rfl rfl ?_
  refine tE ?_
  refine tR ?_
  refine tM rfl rfl ?_
  refine At.val (Val.bin rfl rfl rfl) rfl rfl rfl ?_
  refine tE ?_
  refine At.condT rfl ?_
  refine tR ?_
  refine tM rfl rfl ?_
  refine tA rfl rfl ?_
  refine tE ?_
  refine At.retC ?_
  refine At.thenR ?_
  refine At.ret1 (.inl rfl) rfl rfl rfl (fun w hw => ?_)
  have e : actsE σ (cleanA v) = (13, σ) := by unfold cleanA; rw [← hX, actsE_dead hd1]
  rw [e]
  exact ⟨_, rfl, hw⟩
theorem forget_d (p : Nat) (γ : Gh) (σ : Ds) (w : World) (ht : Tab w) (hf : ¬ feet [Dev p γ σ] 0) (hn : 16 < σ.ws.length) (hst : σ.steps + 3 ≤ 10000000000000) (hd : (Dev p γ σ).holds w) :
    DevU Tryd.prog 26 [.pointer (some ⟨p, 0, none⟩)] p γ σ (.int .i64 (actsE σ (cleanA 0)).1) (actsE σ (cleanA 0)).2 w := by
 refine enterVc hd Tryd.func26 rfl Tryd.ntmps26 rfl ?_
 have hgd := Dev.good hd
 simp only [envOf]
 refine tR ?_
 refine tA rfl rfl ?_
 refine tE ?_
 refine tR ?_
 refine tM rfl rfl ?_
 refine At.callD 0 rfl (fun w hw hr => setClean_d _ _ _ 0 w (ht.modS hw.mod hf) hf hn hst hr) Tryd.call36 rfl rfl (fun y1 => ?_)
 simp only [sc0, scS]
 refine tA rfl rfl ?_
 refine tE ?_
 refine At.retC ?_
 refine At.ret1 (.inl rfl) rfl rfl rfl (fun w hw => ?_)
 exact ⟨_, rfl, hw⟩
theorem writeRec_d (p : Nat) (γ : Gh) (σ : Ds) (v : Value) (lb : List UInt8) (w : World) (hv : RdB w v lb) (ho : Off v (lb.map bv) (feet [Dev p γ σ])) (h8 : lb.length % 8 = 0) (hl : lb.length ≤ 1024) (hn : 1024 + lb.length ≤ 8 * σ.ws.length) (hst : σ.steps + 145 ≤ 10000000000000) (hd : (Dev p γ σ).holds w) :
    DevU Tryd.prog 35 [.pointer (some ⟨p, 0, none⟩), v] p γ σ (.int .i64 (actsE σ (recA lb)).1) (actsE σ (recA lb)).2 w := by
 obtain ⟨A, c, rfl⟩ : ∃ A c, v = .slice A lb.length c := by obtain ⟨A, c, h, _⟩ := hv; exact ⟨A, c, h⟩
 refine enterVc hd Tryd.func35 rfl Tryd.ntmps35 rfl ?_
 have hgd := Dev.good hd
 have hps := hgd.pos
 obtain ⟨r1, r2, r3, _⟩ := actsE_rest (recS lb) σ (recS_ok lb hn)
 obtain ⟨q1, q2, q3, _⟩ := actsE_rest (recF lb) (actsE σ (recS lb)).2 (by rw [r1]; exact recF_ok lb hn (by omega))
 have n1 := recS_len lb
 have n2 := recF_len lb hl
 have n3 := cntR_le lb hl
 simp only [envOf]
 refine tR ?_
 refine tA rfl rfl ?_
 refine tE ?_
 refine At.seq ?_
 refine tR ?_
 refine tM rfl rfl ?_
 refine tM rfl rfl ?_
 have e01 := actsE_01 (recS lb) σ
 rcases e01 with h1 | h1
 ·skip
  refine At.callD 0 rfl (fun w hw hr => (by have h0 := write_d _ _ _ 128 (lb.length / 8) _ lb w (hv.keep hw ho) ho (by omega) (by omega) (by omega) hr; rw [storesE_acts, show stA 128 (wordsL lb (lb.length / 8)) = recS lb from rfl, h1] at h0; exact h0)) Tryd.call56 rfl rfl (fun y1 => ?_)
  simp only [sc0, scS]
  refine tA rfl rfl ?_
  refine tE ?_
  refine tR ?_
  refine tM rfl rfl ?_
  refine At.val (Val.bin rfl rfl rfl) rfl rfl rfl ?_
  refine tE ?_
  refine At.condF rfl ?_
  refine At.skipC ?_
  refine At.thenN ?_
  refine At.seq ?_
  refine tR ?_
  refine tM rfl rfl ?_
  refine tM rfl rfl ?_
  refine At.val (Val.lenRd hv Tryd.underlying38 rfl) rfl rfl rfl ?_
  have e01 := actsE_01 (recF lb) (actsE σ (recS lb)).2
  rcases e01 with h2 | h2
  ·skip
   refine At.callD 0 rfl (fun w hw hr => (by have h0 := flushAll_d _ _ _ 1024 lb.length (cntL 1024 lb.length) w (by omega) (cntL_P _ _) (by omega) hr; rw [linesE_acts, show flA (1024 / 64) (cntL 1024 lb.length) = recF lb from rfl, h2] at h0; exact h0)) Tryd.call28 rfl rfl (fun y2 => ?_)
   simp only [sc0, scS]
   refine tA rfl rfl ?_
   refine tE ?_
   refine tR ?_
   refine tM rfl rfl ?_
   refine At.val (Val.bin rfl rfl rfl) rfl rfl rfl ?_
   refine tE ?_
   refine At.condF rfl ?_
   refine At.skipC ?_
   refine At.thenN ?_
   refine tR ?_
   refine tM rfl rfl ?_
   cases hd3 : deadB (actsE (actsE σ (recS lb)).2 (recF lb)).2
   ·skip
    refine At.callD 0 rfl (fun w hw hr => fence_d _ _ _ w (by omega) hd3 hr) Tryd.call29 rfl rfl (fun y3 => ?_)
    simp only [sc0, scS]
    refine tA rfl rfl ?_
    refine tE ?_
    refine At.retC ?_
    refine At.ret1 (.inl rfl) rfl rfl rfl (fun w hw => ?_)
    have e : actsE σ (recA lb) = (0, fenceD (stepD (actsE (actsE σ (recS lb)).2 (recF lb)).2)) := by unfold recA; rw [actsE_go h1, actsE_go h2]; rw [actsE_live (a := .fe) hd3]; rfl
    rw [e]
    exact ⟨_, rfl, hw⟩
   ·skip
    refine At.callK 0 rfl (fun w hw hr => fence_0 _ _ _ w hd3 hr) Tryd.call29 rfl rfl ?_
    refine tA rfl rfl ?_
    refine tE ?_
    refine At.retC ?_
    refine At.ret1 (.inl rfl) rfl rfl rfl (fun w hw => ?_)
    have e : actsE σ (recA lb) = (13, (actsE (actsE σ (recS lb)).2 (recF lb)).2) := by unfold recA; rw [actsE_go h1, actsE_go h2]; rw [actsE_dead (a := .fe) hd3]
    rw [e]
    exact ⟨_, rfl, hw⟩
  ·skip
   refine At.callD 0 rfl (fun w hw hr => (by have h0 := flushAll_d _ _ _ 1024 lb.length (cntL 1024 lb.length) w (by omega) (cntL_P _ _) (by omega) hr; rw [linesE_acts, show flA (1024 / 64) (cntL 1024 lb.length) = recF lb from rfl, h2] at h0; exact h0)) Tryd.call28 rfl rfl (fun y4 => ?_)
   simp only [sc0, scS]
   refine tA rfl rfl ?_
   refine tE ?_
   refine tR ?_
   refine tM rfl rfl ?_
   refine At.val (Val.bin rfl rfl rfl) rfl rfl rfl ?_
   refine tE ?_
   refine At.condT rfl ?_
   refine tR ?_
   refine tM rfl rfl ?_
   refine tA rfl rfl ?_
   refine tE ?_
   refine At.retC ?_
   refine At.thenR ?_
   refine At.ret1 (.inl rfl) rfl rfl rfl (fun w hw => ?_)
   have e : actsE σ (recA lb) = (13, (actsE (actsE σ (recS lb)).2 (recF lb)).2) := by unfold recA; rw [actsE_go h1, actsE_stop h2]; exact pair_eq h2
   rw [e]
   exact ⟨_, rfl, hw⟩
 ·skip
  refine At.callD 0 rfl (fun w hw hr => (by have h0 := write_d _ _ _ 128 (lb.length / 8) _ lb w (hv.keep hw ho) ho (by omega) (by omega) (by omega) hr; rw [storesE_acts, show stA 128 (wordsL lb (lb.length / 8)) = recS lb from rfl, h1] at h0; exact h0)) Tryd.call56 rfl rfl (fun y5 => ?_)
  simp only [sc0, scS]
  refine tA rfl rfl ?_
  refine tE ?_
  refine tR ?_
  refine tM rfl rfl ?_
  refine At.val (Val.bin rfl rfl rfl) rfl rfl rfl ?_
  refine tE ?_
  refine At.condT rfl ?_
  refine tR ?_
  refine tM rfl rfl ?_
  refine tA rfl rfl ?_
  refine tE ?_
  refine At.retC ?_
  refine At.thenR ?_
  refine At.ret1 (.inl rfl) rfl rfl rfl (fun w hw => ?_)
  have e : actsE σ (recA lb) = (13, (actsE σ (recS lb)).2) := by unfold recA; rw [actsE_stop h1]; exact pair_eq h1
  rw [e]
  exact ⟨_, rfl, hw⟩
end Go.Proofs.YtpihenmdkoojdaaDoor
set_option linter.unusedVariables false
set_option linter.unusedSimpArgs false
namespace Go.Wk
open Go
abbrev Dt := Int × BitVec 64 × List (BitVec 64)
abbrev Dq := Dt × Value
section
variable {P : Program} {Γ : Ctx} {E : Env} {H L F : List Res} {ops : Array Oper} {R : Exit → Act → World → Prop} {rest : List Oper} {w0 w w' : World} {S : Nat → Prop} {φ : Act → World → Prop} {ψ : Act → Prop}
  {d : Nat} {dst : Option Tmp} {g : Option (Nat × Bool)} {ty : TypeId} {pos : String} {after : Array Edge} {x y z : Operand} {v u : Value} {Q : List Dq} {q : Dq}
theorem Rep.offRow {i j : Nat} {r : Res} {e sz n : Nat} {xs : List Value} (hw : Rep w0 S H w) (hi : H[i]? = some (rowR v e sz n xs)) (hj : H[j]? = some r) (hij : i ≠ j) : Off v xs (feet [r]) := fun _ b o s n c hv ⟨q, hq, hb⟩ => by
  rw [List.mem_singleton.1 hq] at hb
  have hi' := List.getElem?_eq_some_iff.1 hi
  have hj' := List.getElem?_eq_some_iff.1 hj
  have hp := List.pairwise_iff_getElem.1 hw.sep
  have hf : (rowR v e sz n xs : Res).foot b := by subst hv; rfl
  rcases Nat.lt_or_gt_of_ne hij with h | h
  · have := hp i j hi'.1 hj'.1 h
    rw [hi'.2, hj'.2] at this
    exact this b hf hb
  · have := hp j i hj'.1 hi'.1 h
    rw [hi'.2, hj'.2] at this
    exact this b hb hf
theorem QAt.idxF {α : Type} {f : α → Value} {t el : Nat} {l : List α} {k : IntKind} {j : Int} (h : Rd Γ.w0 v 1 l.length (l.map f)) (hu : P.underlying t = some (.slice el)) (hs : ∀ w, (sizeOf el).run P w = .ok 1 w) (hx : ev E x = some v) (hy : ev E y = some (.int k j)) (h0 : 0 ≤ j) (h1 : j < l.length)
    (hg : g = none) (hn : Nat.blt d Γ.n = true)
    (c : ∀ b o q, l[j.toNat]? = some q → Γ.w0.cell? ⟨b, o, none⟩ = some (f q) → QAt P Γ ops ((d, .pointer (some ⟨b, o, none⟩)) :: E) H rest ψ) :
    QAt P Γ ops E H ({ dst := some d, op := .indexAddr t x y, type := ty, pos, after, guard := g } :: rest) ψ :=
  QAt.idxRd h hu hs hx hy h0 h1 hg hn fun b o hc => by
    have hq : l[j.toNat]? = some (l[j.toNat]'(by omega)) := List.getElem?_eq_getElem _
    exact c b o _ hq (hc 0 _ (by rw [Nat.mul_one, Nat.add_zero, List.getElem?_map, hq]; rfl))
end
end Go.Wk
set_option linter.unusedVariables false
set_option linter.unusedSimpArgs false
namespace Go.Proofs.YtpihenmdkoojdaaDoor
open Go Go.Wk
theorem Rep.off0 {w0 w : World} {S : Nat → Prop} {H : List Res} {i : Nat} {r : Res} (hw : Rep w0 S H w) (ht : Tab w0) (hf : ¬ S 0) (hi : H[i]? = some r) : ¬ feet [r] 0 := fun ⟨q, hq, hb⟩ => by
  rw [List.mem_singleton.1 hq] at hb
  rcases hw.mine r (List.mem_of_getElem? hi) 0 hb with h | h
  · have := ht.old; omega
  · exact hf h
theorem viewWs_len (ws : List Wd) : (viewWs ws).length = ws.length := by unfold viewWs; rw [List.length_map]
/-- Restore: its error's number, its spans. -/
noncomputable def restE (l : List UInt8) (p i c dt : Int) (M : List (Int × Int)) : Int :=
  if ¬ (GoodSup p i c ∧ dt = 4 + i / 8 ∧ (l.length : Int) = 512 * p) then 30 else if cleanT l = 0 then 130 else if oE (area l) ≠ 0 then 36 else if oT (area l) ≠ cleanT l then 131 else if oL (area l) ≠ M then 132 else 0
noncomputable def restL (l : List UInt8) (p i c dt : Int) (M : List (Int × Int)) : List (Int × Int) := if restE l p i c dt M = 0 then M else []
theorem restL_no {l : List UInt8} {p i c dt : Int} {M : List (Int × Int)} {x : Int} (h : restE l p i c dt M = x) (hx : x ≠ 0) : restL l p i c dt M = [] := by unfold restL; rw [h, if_neg hx]
theorem restL_yes {l : List UInt8} {p i c dt : Int} {M : List (Int × Int)} (h : restE l p i c dt M = 0) : restL l p i c dt M = M := by unfold restL; rw [if_pos h]
theorem b32_0 {x : BitVec 32} (h : ((x.toNat : Nat) : Int) = 0) : x = 0 := BitVec.eq_of_toNat_eq (by show x.toNat = 0; omega)
theorem b32_n {x : BitVec 32} (h : ¬ ((x.toNat : Nat) : Int) = 0) : x ≠ 0 := fun e => h (by rw [e]; rfl)
theorem b32_e {x y : BitVec 32} (h : ((x.toNat : Nat) : Int) = ((y.toNat : Nat) : Int)) : x = y := BitVec.eq_of_toNat_eq (by omega)
theorem b32_d {x y : BitVec 32} (h : ¬ ((x.toNat : Nat) : Int) = ((y.toNat : Nat) : Int)) : x ≠ y := fun e => h (by rw [e])
theorem oL_le (l : List UInt8) : (oL l).length ≤ 249 := by
  by_cases h : OkSv l
  · rw [oL_yes h, spRec_length]; exact h.2.2.2.1
  · rw [oL_no h]; decide
theorem save_d (p : Nat) (γ : Gh) (σ : Ds) (v : Value) (L : List (Int × Int)) (w : World) (ht : Tab w) (hf : ¬ feet [Dev p γ σ] 0) (hv : RdS w v L) (ho : Off v (prS L) (feet [Dev p γ σ])) (hlen : L.length ≤ 8796093022144) (hst : σ.steps + 160 ≤ 10000000000000) (hd : (Dev p γ σ).holds w) :
    DevU Tryd.prog 12 [.pointer (some ⟨p, 0, none⟩), v] p γ σ (.tuple #[.bool (saveE σ L).1, .int .i64 (saveE σ L).2.1]) (saveE σ L).2.2 w := by
 obtain ⟨A, c, rfl⟩ : ∃ A c, v = .slice A L.length c := by obtain ⟨A, c, h, _⟩ := hv; exact ⟨A, c, h⟩
 refine enterVc hd Tryd.func12 rfl Tryd.ntmps12 rfl ?_
 have hgd := Dev.good hd
 have hln := hgd.len
 have hvl := viewWs_len σ.ws
 obtain ⟨T, hT⟩ : ∃ T, T = stampD σ := ⟨_, rfl⟩
 have hT0 : T.toNat ≠ 0 := by rw [hT]; exact nextT_0 _
 simp only [envOf]
 refine tR ?_
 refine tA rfl rfl ?_
 refine tA rfl rfl ?_
 refine tE ?_
 refine At.seq ?_
 refine tR ?_
 refine tM rfl rfl ?_
 refine At.callP (fun w hw => areGood_p _ L w (ht.modS hw.mod hf) (hv.keep hw ho) hlen) Tryd.call30 rfl rfl ?_
 refine At.val (Val.not rfl) rfl rfl rfl ?_
 refine tE ?_
 refine At.cond rfl (fun h1 => ?_) (fun h1 => ?_)
 ·skip
  try simp only [hasB, isSizeB, Bool.not_eq_true', Bool.not_eq_false', bne_iff_ne, ne_eq, bne_eq_false_iff_eq, beq_iff_eq, beq_eq_false_iff_ne, decide_eq_true_eq, decide_eq_false_iff_not, gt_iff_lt, ge_iff_le] at h1
  have hsp : ¬ SpK L L.length := h1
  refine tR ?_
  refine tA rfl rfl ?_
  refine tA rfl rfl ?_
  refine tE ?_
  refine At.retC ?_
  refine At.thenR ?_
  refine At.ret2 (.inl rfl) rfl rfl rfl rfl (fun w hw => ?_)
  have e : saveE σ L = (false, 36, σ) := by
    unfold saveE
    rw [if_pos hsp]
  rw [e]
  exact ⟨_, rfl, hw.drop (List.singleton_sublist.2 (List.mem_of_getElem? (i := 0) rfl))⟩
 ·skip
  try simp only [hasB, isSizeB, Bool.not_eq_true', Bool.not_eq_false', bne_iff_ne, ne_eq, bne_eq_false_iff_eq, beq_iff_eq, beq_eq_false_iff_ne, decide_eq_true_eq, decide_eq_false_iff_not, gt_iff_lt, ge_iff_le] at h1
  have hsp : SpK L L.length := h1
  refine At.skipC ?_
  refine At.thenN ?_
  refine At.seq ?_
  refine tR ?_
  refine tM rfl rfl ?_
  refine At.callK 0 rfl (fun w hw hr => size_k _ _ _ w hr) Tryd.call31 rfl rfl ?_
  refine At.val (Val.bin rfl rfl rfl) rfl rfl rfl ?_
  refine tE ?_
  refine At.cond rfl (fun h2 => ?_) (fun h2 => ?_)
  ·skip
   try simp only [hasB, isSizeB, Bool.not_eq_true', Bool.not_eq_false', bne_iff_ne, ne_eq, bne_eq_false_iff_eq, beq_iff_eq, beq_eq_false_iff_ne, decide_eq_true_eq, decide_eq_false_iff_not, gt_iff_lt, ge_iff_le] at h2
   refine tR ?_
   refine tA rfl rfl ?_
   refine tA rfl rfl ?_
   refine tE ?_
   refine At.retC ?_
   refine At.thenR ?_
   refine At.ret2 (.inl rfl) rfl rfl rfl rfl (fun w hw => ?_)
   have e : saveE σ L = (false, 11, σ) := by
     unfold saveE
     rw [if_neg (Classical.not_not.2 hsp), if_pos (by omega)]
   rw [e]
   exact ⟨_, rfl, hw.drop (List.singleton_sublist.2 (List.mem_of_getElem? (i := 0) rfl))⟩
  ·skip
   try simp only [hasB, isSizeB, Bool.not_eq_true', Bool.not_eq_false', bne_iff_ne, ne_eq, bne_eq_false_iff_eq, beq_iff_eq, beq_eq_false_iff_ne, decide_eq_true_eq, decide_eq_false_iff_not, gt_iff_lt, ge_iff_le] at h2
   refine At.skipC ?_
   refine At.thenN ?_
   refine At.seq ?_
   refine tR ?_
   refine tM rfl rfl ?_
   refine At.val (Val.lenRd hv Tryd.underlying30 rfl) rfl rfl rfl ?_
   refine At.val (Val.bin rfl rfl rfl) rfl rfl rfl ?_
   refine tE ?_
   refine At.cond rfl (fun h3 => ?_) (fun h3 => ?_)
   ·skip
    try simp only [hasB, isSizeB, Bool.not_eq_true', Bool.not_eq_false', bne_iff_ne, ne_eq, bne_eq_false_iff_eq, beq_iff_eq, beq_eq_false_iff_ne, decide_eq_true_eq, decide_eq_false_iff_not, gt_iff_lt, ge_iff_le] at h3
    refine tR ?_
    refine tA rfl rfl ?_
    refine tA rfl rfl ?_
    refine tE ?_
    refine At.retC ?_
    refine At.thenR ?_
    refine At.ret2 (.inl rfl) rfl rfl rfl rfl (fun w hw => ?_)
    have e : saveE σ L = (false, 0, σ) := by
      unfold saveE
      rw [if_neg (Classical.not_not.2 hsp), if_neg (by omega), if_pos (by omega)]
    rw [e]
    exact ⟨_, rfl, hw.drop (List.singleton_sublist.2 (List.mem_of_getElem? (i := 0) rfl))⟩
   ·skip
    try simp only [hasB, isSizeB, Bool.not_eq_true', Bool.not_eq_false', bne_iff_ne, ne_eq, bne_eq_false_iff_eq, beq_iff_eq, beq_eq_false_iff_ne, decide_eq_true_eq, decide_eq_false_iff_not, gt_iff_lt, ge_iff_le] at h3
    have hg : GoodSv T L := ⟨hT0, by omega, hsp⟩
    obtain ⟨hb1, hb2⟩ := svB_le (t := T) (L := L) (by omega)
    obtain ⟨wd, hwd⟩ : ∃ wd, σ.ws[16]? = some wd := ⟨_, List.getElem?_eq_getElem (by omega)⟩
    obtain ⟨z1, z2, z3, _⟩ := actsE_rest (cleanA 0) σ (cleanA_ok 0 (by omega))
    have z4 : (cleanA 0).length = 3 := rfl
    refine At.skipC ?_
    refine At.thenN ?_
    refine tR ?_
    refine tM rfl rfl ?_
    refine At.callRK 0 rfl (fun w hw hr => view_k _ _ _ w hr) Tryd.call13 rfl rfl (fun v4 => ?_)
    refine At.callP (fun w hw => (by have h0 := nextSt_p _ (wbytes (viewWs σ.ws)) w (ht.modS hw.mod hf) (row_rd (hw.row (i := 0) rfl) (by decide)) (by rw [wbytes_length, hvl]; omega) (by rw [wbytes_length, hvl]; omega); rw [show nextT (wbytes (viewWs σ.ws)) = T from hT.symm] at h0; exact h0)) Tryd.call32 rfl rfl ?_
    refine tA rfl rfl ?_
    refine tE ?_
    refine tR ?_
    refine tM rfl rfl ?_
    refine tM rfl rfl ?_
    refine At.val (Val.build (fun a ha => by simp only [List.map_toArray, List.map_cons, List.map_nil, ha.eval (x := (.tmp 27)) rfl, ha.eval (x := (.tmp 28)) rfl] <;> rfl) (bld_76_0_1 _ _ _ _ )) rfl rfl rfl ?_
    refine At.callNT (g := (fun v => .tuple #[v, .int .i64 0])) (fun w hw => (by have h0 := packSv_n T _ L w (hv.keep hw ho) hlen (ht.modS hw.mod hf); rw [svE_T hg, svP_T hg] at h0; exact h0)) Tryd.call33 rfl rfl (fun v5 => ?_)
    refine tM rfl rfl ?_
    refine At.val (Val.extract rfl rfl) rfl rfl rfl ?_
    refine At.val (Val.extract rfl rfl) rfl rfl rfl ?_
    refine tA rfl rfl ?_
    refine tA rfl rfl ?_
    refine tE ?_
    refine At.seq ?_
    refine tR ?_
    refine tM rfl rfl ?_
    refine At.val (Val.bin rfl rfl rfl) rfl rfl rfl ?_
    refine tE ?_
    refine At.condF rfl ?_
    refine At.skipC ?_
    refine At.thenN ?_
    refine At.seq ?_
    refine tR ?_
    refine tM rfl rfl ?_
    by_cases hwz : nowW wd = 0
    ·skip
     have hF : saveF σ = [] := by unfold saveF; rw [nowAt_some hwd, if_pos hwz]
     refine At.callK 2 rfl (fun w hw hr => (by have h0 := word_k _ _ _ 16 wd w hwd hr; rw [hwz] at h0; exact h0)) Tryd.call34 rfl rfl ?_
     refine tM rfl rfl ?_
     refine At.val (Val.extract rfl rfl) rfl rfl rfl ?_
     refine At.val (Val.extract rfl rfl) rfl rfl rfl ?_
     refine tA rfl rfl ?_
     refine tA rfl rfl ?_
     refine tE ?_
     refine tR ?_
     refine tM rfl rfl ?_
     refine At.val (Val.bin rfl rfl rfl) rfl rfl rfl ?_
     refine tE ?_
     refine At.condF rfl ?_
     refine At.skipC ?_
     refine At.thenN ?_
     refine At.seq ?_
     refine tR ?_
     refine tM rfl rfl ?_
     refine tM rfl rfl ?_
     obtain ⟨y1, y2, y3, _⟩ := actsE_rest (recA (svB T L)) (σ) (recA_ok (svB T L) (by omega) (by omega))
     have y4 := recA_len (svB T L) hb1
     have e01 := actsE_01 (recA (svB T L)) (σ)
     rcases e01 with h1 | h1
     ·skip
      refine At.callD 2 rfl (fun w hw hr => (by have h0 := writeRec_d _ _ (σ) _ (svB T L) w (row_rd (hw.row (i := 0) rfl) (by decide)) (Rep.offRow (i := 0) (j := 2) hw rfl rfl (by decide)) hb2 hb1 (by omega) (by omega) hr; rw [h1] at h0; exact h0)) Tryd.call35 rfl rfl (fun y6 => ?_)
      simp only [sc0, scS]
      refine tA rfl rfl ?_
      refine tE ?_
      refine tR ?_
      refine tM rfl rfl ?_
      refine At.val (Val.bin rfl rfl rfl) rfl rfl rfl ?_
      refine tE ?_
      refine At.condF rfl ?_
      refine At.skipC ?_
      refine At.thenN ?_
      refine At.seq ?_
      refine tR ?_
      refine tM rfl rfl ?_
      refine tM rfl rfl ?_
      have e01 := actsE_01 (cleanA T) ((actsE (σ) (recA (svB T L))).2)
      rcases e01 with h2 | h2
      ·skip
       refine At.callD 2 rfl (fun w hw hr => (by have h0 := setClean_d _ _ ((actsE (σ) (recA (svB T L))).2) T w (ht.modS hw.mod hf) (Rep.off0 hw ht hf (i := 2) rfl) (by omega) (by omega) hr; rw [h2] at h0; exact h0)) Tryd.call36 rfl rfl (fun y7 => ?_)
       simp only [sc0, scS]
       refine tA rfl rfl ?_
       refine tE ?_
       refine tR ?_
       refine tM rfl rfl ?_
       refine At.val (Val.bin rfl rfl rfl) rfl rfl rfl ?_
       refine tE ?_
       refine At.condF rfl ?_
       refine At.skipC ?_
       refine At.thenN ?_
       refine tR ?_
       refine tA rfl rfl ?_
       refine tA rfl rfl ?_
       refine tE ?_
       refine At.retC ?_
       refine At.ret2 (.inl rfl) rfl rfl rfl rfl (fun w hw => ?_)
       have e : saveE σ L = (true, 0, ((actsE ((actsE (σ) (recA (svB T L))).2) (cleanA T)).2)) := by
         unfold saveE
         rw [if_neg (Classical.not_not.2 hsp), if_neg (by omega), if_neg (by omega)]
         have ea : actsE σ (saveA σ L) = (0, ((actsE ((actsE (σ) (recA (svB T L))).2) (cleanA T)).2)) := by
           unfold saveA
           rw [hF, ← hT]
           rw [List.nil_append]
           rw [actsE_go h1]; exact pair_eq h2
         rw [ea]; rfl
       rw [e]
       exact ⟨_, rfl, hw.drop (List.singleton_sublist.2 (List.mem_of_getElem? (i := 2) rfl))⟩
      ·skip
       refine At.callD 2 rfl (fun w hw hr => (by have h0 := setClean_d _ _ ((actsE (σ) (recA (svB T L))).2) T w (ht.modS hw.mod hf) (Rep.off0 hw ht hf (i := 2) rfl) (by omega) (by omega) hr; rw [h2] at h0; exact h0)) Tryd.call36 rfl rfl (fun y8 => ?_)
       simp only [sc0, scS]
       refine tA rfl rfl ?_
       refine tE ?_
       refine tR ?_
       refine tM rfl rfl ?_
       refine At.val (Val.bin rfl rfl rfl) rfl rfl rfl ?_
       refine tE ?_
       refine At.condT rfl ?_
       refine tR ?_
       refine tM rfl rfl ?_
       refine tA rfl rfl ?_
       refine tA rfl rfl ?_
       refine tE ?_
       refine At.retC ?_
       refine At.thenR ?_
       refine At.ret2 (.inl rfl) rfl rfl rfl rfl (fun w hw => ?_)
       have e : saveE σ L = (false, 13, ((actsE ((actsE (σ) (recA (svB T L))).2) (cleanA T)).2)) := by
         unfold saveE
         rw [if_neg (Classical.not_not.2 hsp), if_neg (by omega), if_neg (by omega)]
         have ea : actsE σ (saveA σ L) = (13, ((actsE ((actsE (σ) (recA (svB T L))).2) (cleanA T)).2)) := by
           unfold saveA
           rw [hF, ← hT]
           rw [List.nil_append]
           rw [actsE_go h1]; exact pair_eq h2
         rw [ea]; rfl
       rw [e]
       exact ⟨_, rfl, hw.drop (List.singleton_sublist.2 (List.mem_of_getElem? (i := 2) rfl))⟩
     ·skip
      refine At.callD 2 rfl (fun w hw hr => (by have h0 := writeRec_d _ _ (σ) _ (svB T L) w (row_rd (hw.row (i := 0) rfl) (by decide)) (Rep.offRow (i := 0) (j := 2) hw rfl rfl (by decide)) hb2 hb1 (by omega) (by omega) hr; rw [h1] at h0; exact h0)) Tryd.call35 rfl rfl (fun y9 => ?_)
      simp only [sc0, scS]
      refine tA rfl rfl ?_
      refine tE ?_
      refine tR ?_
      refine tM rfl rfl ?_
      refine At.val (Val.bin rfl rfl rfl) rfl rfl rfl ?_
      refine tE ?_
      refine At.condT rfl ?_
      refine tR ?_
      refine tM rfl rfl ?_
      refine tA rfl rfl ?_
      refine tA rfl rfl ?_
      refine tE ?_
      refine At.retC ?_
      refine At.thenR ?_
      refine At.ret2 (.inl rfl) rfl rfl rfl rfl (fun w hw => ?_)
      have e : saveE σ L = (false, 13, ((actsE (σ) (recA (svB T L))).2)) := by
        unfold saveE
        rw [if_neg (Classical.not_not.2 hsp), if_neg (by omega), if_neg (by omega)]
        have ea : actsE σ (saveA σ L) = (13, ((actsE (σ) (recA (svB T L))).2)) := by
          unfold saveA
          rw [hF, ← hT]
          rw [List.nil_append]
          rw [actsE_stop h1]; exact pair_eq h1
        rw [ea]; rfl
      rw [e]
      exact ⟨_, rfl, hw.drop (List.singleton_sublist.2 (List.mem_of_getElem? (i := 2) rfl))⟩
    ·skip
     have hF : saveF σ = cleanA 0 := by unfold saveF; rw [nowAt_some hwd, if_neg hwz]
     refine At.callK 2 rfl (fun w hw hr => word_k _ _ _ 16 wd w hwd hr) Tryd.call34 rfl rfl ?_
     refine tM rfl rfl ?_
     refine At.val (Val.extract rfl rfl) rfl rfl rfl ?_
     refine At.val (Val.extract rfl rfl) rfl rfl rfl ?_
     refine tA rfl rfl ?_
     refine tA rfl rfl ?_
     refine tE ?_
     refine tR ?_
     refine tM rfl rfl ?_
     refine At.val (Val.bin rfl rfl rfl) rfl rfl rfl ?_
     rw [show (((nowW wd).toNat : Int) != 0) = true from by rw [bne_iff_ne]; intro h9; exact hwz (BitVec.eq_of_toNat_eq (by show (nowW wd).toNat = 0; omega))]
     refine tE ?_
     refine At.condT rfl ?_
     refine tR ?_
     refine tM rfl rfl ?_
     have e01 := actsE_01 (cleanA 0) σ
     rcases e01 with hz0 | hz0
     ·skip
      refine At.callD 2 rfl (fun w hw hr => (by have h0 := forget_d _ _ _ w (ht.modS hw.mod hf) hf (by omega) (by omega) hr; rw [hz0] at h0; exact h0)) Tryd.call26 rfl rfl (fun y10 => ?_)
      simp only [sc0, scS]
      refine tA rfl rfl ?_
      refine tE ?_
      refine tR ?_
      refine tM rfl rfl ?_
      refine At.val (Val.bin rfl rfl rfl) rfl rfl rfl ?_
      refine tE ?_
      refine At.condF rfl ?_
      refine At.skipC ?_
      refine At.thenN ?_
      refine At.seq ?_
      refine tR ?_
      refine tM rfl rfl ?_
      refine tM rfl rfl ?_
      obtain ⟨y1, y2, y3, _⟩ := actsE_rest (recA (svB T L)) ((actsE σ (cleanA 0)).2) (recA_ok (svB T L) (by omega) (by omega))
      have y4 := recA_len (svB T L) hb1
      have e01 := actsE_01 (recA (svB T L)) ((actsE σ (cleanA 0)).2)
      rcases e01 with h1 | h1
      ·skip
       refine At.callD 2 rfl (fun w hw hr => (by have h0 := writeRec_d _ _ ((actsE σ (cleanA 0)).2) _ (svB T L) w (row_rd (hw.row (i := 0) rfl) (by decide)) (Rep.offRow (i := 0) (j := 2) hw rfl rfl (by decide)) hb2 hb1 (by omega) (by omega) hr; rw [h1] at h0; exact h0)) Tryd.call35 rfl rfl (fun y11 => ?_)
       simp only [sc0, scS]
       refine tA rfl rfl ?_
       refine tE ?_
       refine tR ?_
       refine tM rfl rfl ?_
       refine At.val (Val.bin rfl rfl rfl) rfl rfl rfl ?_
       refine tE ?_
       refine At.condF rfl ?_
       refine At.skipC ?_
       refine At.thenN ?_
       refine At.seq ?_
       refine tR ?_
       refine tM rfl rfl ?_
       refine tM rfl rfl ?_
       have e01 := actsE_01 (cleanA T) ((actsE ((actsE σ (cleanA 0)).2) (recA (svB T L))).2)
       rcases e01 with h2 | h2
       ·skip
        refine At.callD 2 rfl (fun w hw hr => (by have h0 := setClean_d _ _ ((actsE ((actsE σ (cleanA 0)).2) (recA (svB T L))).2) T w (ht.modS hw.mod hf) (Rep.off0 hw ht hf (i := 2) rfl) (by omega) (by omega) hr; rw [h2] at h0; exact h0)) Tryd.call36 rfl rfl (fun y12 => ?_)
        simp only [sc0, scS]
        refine tA rfl rfl ?_
        refine tE ?_
        refine tR ?_
        refine tM rfl rfl ?_
        refine At.val (Val.bin rfl rfl rfl) rfl rfl rfl ?_
        refine tE ?_
        refine At.condF rfl ?_
        refine At.skipC ?_
        refine At.thenN ?_
        refine tR ?_
        refine tA rfl rfl ?_
        refine tA rfl rfl ?_
        refine tE ?_
        refine At.retC ?_
        refine At.ret2 (.inl rfl) rfl rfl rfl rfl (fun w hw => ?_)
        have e : saveE σ L = (true, 0, ((actsE ((actsE ((actsE σ (cleanA 0)).2) (recA (svB T L))).2) (cleanA T)).2)) := by
          unfold saveE
          rw [if_neg (Classical.not_not.2 hsp), if_neg (by omega), if_neg (by omega)]
          have ea : actsE σ (saveA σ L) = (0, ((actsE ((actsE ((actsE σ (cleanA 0)).2) (recA (svB T L))).2) (cleanA T)).2)) := by
            unfold saveA
            rw [hF, ← hT]
            rw [actsE_go hz0]
            rw [actsE_go h1]; exact pair_eq h2
          rw [ea]; rfl
        rw [e]
        exact ⟨_, rfl, hw.drop (List.singleton_sublist.2 (List.mem_of_getElem? (i := 2) rfl))⟩
       ·skip
        refine At.callD 2 rfl (fun w hw hr => (by have h0 := setClean_d _ _ ((actsE ((actsE σ (cleanA 0)).2) (recA (svB T L))).2) T w (ht.modS hw.mod hf) (Rep.off0 hw ht hf (i := 2) rfl) (by omega) (by omega) hr; rw [h2] at h0; exact h0)) Tryd.call36 rfl rfl (fun y13 => ?_)
        simp only [sc0, scS]
        refine tA rfl rfl ?_
        refine tE ?_
        refine tR ?_
        refine tM rfl rfl ?_
        refine At.val (Val.bin rfl rfl rfl) rfl rfl rfl ?_
        refine tE ?_
        refine At.condT rfl ?_
        refine tR ?_
        refine tM rfl rfl ?_
        refine tA rfl rfl ?_
        refine tA rfl rfl ?_
        refine tE ?_
        refine At.retC ?_
        refine At.thenR ?_
        refine At.ret2 (.inl rfl) rfl rfl rfl rfl (fun w hw => ?_)
        have e : saveE σ L = (false, 13, ((actsE ((actsE ((actsE σ (cleanA 0)).2) (recA (svB T L))).2) (cleanA T)).2)) := by
          unfold saveE
          rw [if_neg (Classical.not_not.2 hsp), if_neg (by omega), if_neg (by omega)]
          have ea : actsE σ (saveA σ L) = (13, ((actsE ((actsE ((actsE σ (cleanA 0)).2) (recA (svB T L))).2) (cleanA T)).2)) := by
            unfold saveA
            rw [hF, ← hT]
            rw [actsE_go hz0]
            rw [actsE_go h1]; exact pair_eq h2
          rw [ea]; rfl
        rw [e]
        exact ⟨_, rfl, hw.drop (List.singleton_sublist.2 (List.mem_of_getElem? (i := 2) rfl))⟩
      ·skip
       refine At.callD 2 rfl (fun w hw hr => (by have h0 := writeRec_d _ _ ((actsE σ (cleanA 0)).2) _ (svB T L) w (row_rd (hw.row (i := 0) rfl) (by decide)) (Rep.offRow (i := 0) (j := 2) hw rfl rfl (by decide)) hb2 hb1 (by omega) (by omega) hr; rw [h1] at h0; exact h0)) Tryd.call35 rfl rfl (fun y14 => ?_)
       simp only [sc0, scS]
       refine tA rfl rfl ?_
       refine tE ?_
       refine tR ?_
       refine tM rfl rfl ?_
       refine At.val (Val.bin rfl rfl rfl) rfl rfl rfl ?_
       refine tE ?_
       refine At.condT rfl ?_
       refine tR ?_
       refine tM rfl rfl ?_
       refine tA rfl rfl ?_
       refine tA rfl rfl ?_
       refine tE ?_
       refine At.retC ?_
       refine At.thenR ?_
       refine At.ret2 (.inl rfl) rfl rfl rfl rfl (fun w hw => ?_)
       have e : saveE σ L = (false, 13, ((actsE ((actsE σ (cleanA 0)).2) (recA (svB T L))).2)) := by
         unfold saveE
         rw [if_neg (Classical.not_not.2 hsp), if_neg (by omega), if_neg (by omega)]
         have ea : actsE σ (saveA σ L) = (13, ((actsE ((actsE σ (cleanA 0)).2) (recA (svB T L))).2)) := by
           unfold saveA
           rw [hF, ← hT]
           rw [actsE_go hz0]
           rw [actsE_stop h1]; exact pair_eq h1
         rw [ea]; rfl
       rw [e]
       exact ⟨_, rfl, hw.drop (List.singleton_sublist.2 (List.mem_of_getElem? (i := 2) rfl))⟩
     ·skip
      refine At.callD 2 rfl (fun w hw hr => (by have h0 := forget_d _ _ _ w (ht.modS hw.mod hf) hf (by omega) (by omega) hr; rw [hz0] at h0; exact h0)) Tryd.call26 rfl rfl (fun y15 => ?_)
      simp only [sc0, scS]
      refine tA rfl rfl ?_
      refine tE ?_
      refine tR ?_
      refine tM rfl rfl ?_
      refine At.val (Val.bin rfl rfl rfl) rfl rfl rfl ?_
      refine tE ?_
      refine At.condT rfl ?_
      refine tR ?_
      refine tM rfl rfl ?_
      refine tA rfl rfl ?_
      refine tA rfl rfl ?_
      refine tE ?_
      refine At.retC ?_
      refine At.thenR ?_
      refine At.ret2 (.inl rfl) rfl rfl rfl rfl (fun w hw => ?_)
      have e : saveE σ L = (false, 13, ((actsE σ (cleanA 0)).2)) := by
        unfold saveE
        rw [if_neg (Classical.not_not.2 hsp), if_neg (by omega), if_neg (by omega)]
        have ea : actsE σ (saveA σ L) = (13, ((actsE σ (cleanA 0)).2)) := by
          unfold saveA
          rw [hF, ← hT]
          rw [actsE_stop hz0]; exact pair_eq hz0
        rw [ea]; rfl
      rw [e]
      exact ⟨_, rfl, hw.drop (List.singleton_sublist.2 (List.mem_of_getElem? (i := 2) rfl))⟩
theorem restore_n (v u : Value) (l : List UInt8) (p i c dt : Int) (M : List (Int × Int)) (w : World) (ht : Tab w) (hv : RdB w v l) (hu : RdS w u M) (hlen : l.length ≤ 140737488355328) (hm : M.length ≤ 8796093022144) :
    NewRowT Tryd.prog 14 [v, .agg #[.int .i64 p, .int .i64 i, .int .i64 c, .int .i64 dt, .slice none 0 0, u]] (fun v => .tuple #[v, .int .i64 (restE l p i c dt M)]) 51 2 (restL l p i c dt M).length (prS (restL l p i c dt M)) w := by
 obtain ⟨A, cu, rfl⟩ : ∃ A c, u = .slice A M.length c := by obtain ⟨A, c, h, _⟩ := hu; exact ⟨A, c, h⟩
 refine enter0 Tryd.func14 rfl Tryd.ntmps14 rfl ?_
 simp only [envOf]
 refine tR ?_
 refine At.box rfl rfl rfl (fun b1 => ?_)
 refine tA rfl rfl ?_
 refine tA rfl rfl ?_
 refine tE ?_
 refine At.seq ?_
 refine tR ?_
 refine At.val (Val.field 0 rfl fo_45_0 rfl) rfl rfl rfl ?_
 refine At.val (Val.loadPart (i := 0) Tryd.isAgg28 Tryd.sizeOf28 rfl rfl rfl rfl) rfl rfl rfl ?_
 refine tM rfl rfl ?_
 refine At.val (Val.lenRd hv Tryd.underlying38 rfl) rfl rfl rfl ?_
 refine At.callP (fun w hw => fitsSv_p p i c dt (l.length : Int) w) Tryd.call39 rfl rfl ?_
 refine At.val (Val.not rfl) rfl rfl rfl ?_
 refine tE ?_
 refine At.cond rfl (fun h2 => ?_) (fun h2 => ?_)
 ·skip
  try simp only [hasB, isSizeB, Bool.not_eq_true', Bool.not_eq_false', bne_iff_ne, ne_eq, bne_eq_false_iff_eq, beq_iff_eq, beq_eq_false_iff_ne, decide_eq_true_eq, decide_eq_false_iff_not, gt_iff_lt, ge_iff_le] at h2
  have hbad := h2
  refine tR ?_
  refine tA rfl rfl ?_
  refine tA rfl rfl ?_
  refine At.nil ?_
  refine At.rowNilS 51 ?_
  refine At.thenN ?_
  refine At.retC ?_
  refine At.thenR ?_
  refine At.ret2 (.inl rfl) rfl rfl rfl rfl (fun w hw => ?_)
  have e : (restE l p i c dt M) = 30 := by unfold restE; rw [if_pos hbad]
  have e2 : (restL l p i c dt M) = [] := restL_no e (by decide)
  rw [e, e2]
  exact ⟨_, rfl, (hw.drop (List.singleton_sublist.2 (List.mem_of_getElem? (i := 0) rfl))).f0⟩
 ·skip
  try simp only [hasB, isSizeB, Bool.not_eq_true', Bool.not_eq_false', bne_iff_ne, ne_eq, bne_eq_false_iff_eq, beq_iff_eq, beq_eq_false_iff_ne, decide_eq_true_eq, decide_eq_false_iff_not, gt_iff_lt, ge_iff_le] at h2
  obtain ⟨hg, hdt, hnl⟩ := h2
  have hg2 := hg
  unfold GoodSup at hg2
  have h0 : 2048 ≤ l.length := by omega
  refine At.skipC ?_
  refine At.thenN ?_
  refine tR ?_
  refine tM rfl rfl ?_
  refine At.callP (fun w hw => cleanSt_p v l w (ht.mod hw.mod) (hv.mod hw.mod) (by omega) hlen) Tryd.call40 rfl rfl ?_
  refine tA rfl rfl ?_
  refine tE ?_
  refine At.seq ?_
  refine tR ?_
  refine tM rfl rfl ?_
  refine At.val (Val.bin rfl rfl rfl) rfl rfl rfl ?_
  refine tE ?_
  refine At.cond rfl (fun h3 => ?_) (fun h3 => ?_)
  ·skip
   try simp only [hasB, isSizeB, Bool.not_eq_true', Bool.not_eq_false', bne_iff_ne, ne_eq, bne_eq_false_iff_eq, beq_iff_eq, beq_eq_false_iff_ne, decide_eq_true_eq, decide_eq_false_iff_not, gt_iff_lt, ge_iff_le] at h3
   have hct := b32_0 h3
   refine tR ?_
   refine tA rfl rfl ?_
   refine tA rfl rfl ?_
   refine At.nil ?_
   refine At.rowNilS 51 ?_
   refine At.thenN ?_
   refine At.retC ?_
   refine At.thenR ?_
   refine At.ret2 (.inl rfl) rfl rfl rfl rfl (fun w hw => ?_)
   have e : (restE l p i c dt M) = 130 := by unfold restE; rw [if_neg (Classical.not_not.2 ⟨hg, hdt, hnl⟩), if_pos hct]
   have e2 : (restL l p i c dt M) = [] := restL_no e (by decide)
   rw [e, e2]
   exact ⟨_, rfl, (hw.drop (List.singleton_sublist.2 (List.mem_of_getElem? (i := 0) rfl))).f0⟩
  ·skip
   try simp only [hasB, isSizeB, Bool.not_eq_true', Bool.not_eq_false', bne_iff_ne, ne_eq, bne_eq_false_iff_eq, beq_iff_eq, beq_eq_false_iff_ne, decide_eq_true_eq, decide_eq_false_iff_not, gt_iff_lt, ge_iff_le] at h3
   have hct := b32_n h3
   refine At.skipC ?_
   refine At.thenN ?_
   refine tR ?_
   refine tM rfl rfl ?_
   refine At.callNT (g := (fun v => .tuple #[.agg #[b32 (oT (area l)), v], .int .i64 (oE (area l))])) (fun w hw => readSv_n v l w (ht.mod hw.mod) (hv.mod hw.mod) h0 hlen) Tryd.call41 rfl rfl (fun v4 => ?_)
   refine tM rfl rfl ?_
   refine At.val (Val.extract rfl rfl) rfl rfl rfl ?_
   refine At.val (Val.extract rfl rfl) rfl rfl rfl ?_
   refine At.alloc Tryd.zeroValue76 rfl rfl (fun b5 => ?_)
   refine At.rowOne (i := 1) rfl (fun ho6 => ?_)
   refine At.storeAll (i := 0) Tryd.sizeOf76 rfl rfl rfl (by intro u hu; simp only [List.mem_cons, List.not_mem_nil, or_false] at hu; rcases hu with rfl | rfl <;> first | rfl | assumption) rfl rfl ?_
   simp only [sc0, scS]
   refine tA rfl rfl ?_
   refine tE ?_
   refine At.seq ?_
   refine tR ?_
   refine tM rfl rfl ?_
   refine At.val (Val.bin rfl rfl rfl) rfl rfl rfl ?_
   refine tE ?_
   refine At.cond rfl (fun h7 => ?_) (fun h7 => ?_)
   ·skip
    try simp only [hasB, isSizeB, Bool.not_eq_true', Bool.not_eq_false', bne_iff_ne, ne_eq, bne_eq_false_iff_eq, beq_iff_eq, beq_eq_false_iff_ne, decide_eq_true_eq, decide_eq_false_iff_not, gt_iff_lt, ge_iff_le] at h7
    have hoe : oE (area l) ≠ 0 := h7
    refine tR ?_
    refine tA rfl rfl ?_
    refine tA rfl rfl ?_
    refine At.nil ?_
    refine At.rowNilS 51 ?_
    refine At.thenN ?_
    refine At.retC ?_
    refine At.thenR ?_
    refine At.ret2 (.inl rfl) rfl rfl rfl rfl (fun w hw => ?_)
    have e : (restE l p i c dt M) = 36 := by unfold restE; rw [if_neg (Classical.not_not.2 ⟨hg, hdt, hnl⟩), if_neg hct, if_pos hoe]
    have e2 : (restL l p i c dt M) = [] := restL_no e (by decide)
    rw [e, e2]
    exact ⟨_, rfl, (hw.drop (List.singleton_sublist.2 (List.mem_of_getElem? (i := 0) rfl))).f0⟩
   ·skip
    try simp only [hasB, isSizeB, Bool.not_eq_true', Bool.not_eq_false', bne_iff_ne, ne_eq, bne_eq_false_iff_eq, beq_iff_eq, beq_eq_false_iff_ne, decide_eq_true_eq, decide_eq_false_iff_not, gt_iff_lt, ge_iff_le] at h7
    have hoe : ¬ oE (area l) ≠ 0 := fun hzz => hzz (by first | exact h7 | exact Classical.not_not.1 h7)
    refine At.skipC ?_
    refine At.thenN ?_
    refine At.seq ?_
    refine tR ?_
    refine At.val (Val.field 0 rfl fo_76_0 rfl) rfl rfl rfl ?_
    refine At.val (Val.load (i := 0) Tryd.isAgg71 rfl rfl rfl) rfl rfl rfl ?_
    refine tM rfl rfl ?_
    refine At.val (Val.bin rfl rfl rfl) rfl rfl rfl ?_
    refine tE ?_
    refine At.cond rfl (fun h8 => ?_) (fun h8 => ?_)
    ·skip
     try simp only [hasB, isSizeB, Bool.not_eq_true', Bool.not_eq_false', bne_iff_ne, ne_eq, bne_eq_false_iff_eq, beq_iff_eq, beq_eq_false_iff_ne, decide_eq_true_eq, decide_eq_false_iff_not, gt_iff_lt, ge_iff_le] at h8
     have hot := b32_d h8
     refine tR ?_
     refine tA rfl rfl ?_
     refine tA rfl rfl ?_
     refine At.nil ?_
     refine At.rowNilS 51 ?_
     refine At.thenN ?_
     refine At.retC ?_
     refine At.thenR ?_
     refine At.ret2 (.inl rfl) rfl rfl rfl rfl (fun w hw => ?_)
     have e : (restE l p i c dt M) = 131 := by unfold restE; rw [if_neg (Classical.not_not.2 ⟨hg, hdt, hnl⟩), if_neg hct, if_neg hoe, if_pos hot]
     have e2 : (restL l p i c dt M) = [] := restL_no e (by decide)
     rw [e, e2]
     exact ⟨_, rfl, (hw.drop (List.singleton_sublist.2 (List.mem_of_getElem? (i := 0) rfl))).f0⟩
    ·skip
     try simp only [hasB, isSizeB, Bool.not_eq_true', Bool.not_eq_false', bne_iff_ne, ne_eq, bne_eq_false_iff_eq, beq_iff_eq, beq_eq_false_iff_ne, decide_eq_true_eq, decide_eq_false_iff_not, gt_iff_lt, ge_iff_le] at h8
     have hot : ¬ oT (area l) ≠ cleanT l := fun hzz => hzz (b32_e (by first | exact h8 | exact Classical.not_not.1 h8))
     refine At.skipC ?_
     refine At.thenN ?_
     refine At.seq ?_
     refine tR ?_
     refine At.val (Val.field 1 rfl fo_76_1 rfl) rfl rfl rfl ?_
     refine At.val (Val.load (i := 0) Tryd.isAgg30 rfl rfl rfl) rfl rfl rfl ?_
     refine At.val (Val.field 5 rfl fo_45_2 rfl) rfl rfl rfl ?_
     refine At.val (Val.load (i := 2) Tryd.isAgg30 rfl rfl rfl) rfl rfl rfl ?_
     refine At.callP (fun w hw => sameSp_p _ _ (oL (area l)) M w (row_rd (hw.row (i := 1) rfl) (by decide)) (hu.mod hw.mod) (by have := oL_le (area l); omega) hm) Tryd.call42 rfl rfl ?_
     refine At.val (Val.not rfl) rfl rfl rfl ?_
     refine tE ?_
     refine At.cond rfl (fun h9 => ?_) (fun h9 => ?_)
     ·skip
      try simp only [hasB, isSizeB, Bool.not_eq_true', Bool.not_eq_false', bne_iff_ne, ne_eq, bne_eq_false_iff_eq, beq_iff_eq, beq_eq_false_iff_ne, decide_eq_true_eq, decide_eq_false_iff_not, gt_iff_lt, ge_iff_le] at h9
      have hol : oL (area l) ≠ M := h9
      refine tR ?_
      refine tA rfl rfl ?_
      refine tA rfl rfl ?_
      refine At.nil ?_
      refine At.rowNilS 51 ?_
      refine At.thenN ?_
      refine At.retC ?_
      refine At.thenR ?_
      refine At.ret2 (.inl rfl) rfl rfl rfl rfl (fun w hw => ?_)
      have e : (restE l p i c dt M) = 132 := by unfold restE; rw [if_neg (Classical.not_not.2 ⟨hg, hdt, hnl⟩), if_neg hct, if_neg hoe, if_neg hot, if_pos hol]
      have e2 : (restL l p i c dt M) = [] := restL_no e (by decide)
      rw [e, e2]
      exact ⟨_, rfl, (hw.drop (List.singleton_sublist.2 (List.mem_of_getElem? (i := 0) rfl))).f0⟩
     ·skip
      try simp only [hasB, isSizeB, Bool.not_eq_true', Bool.not_eq_false', bne_iff_ne, ne_eq, bne_eq_false_iff_eq, beq_iff_eq, beq_eq_false_iff_ne, decide_eq_true_eq, decide_eq_false_iff_not, gt_iff_lt, ge_iff_le] at h9
      have hol : ¬ oL (area l) ≠ M := fun hzz => hzz h9
      refine At.skipC ?_
      refine At.thenN ?_
      refine tR ?_
      refine At.val (Val.field 1 rfl fo_76_1 rfl) rfl rfl rfl ?_
      refine At.val (Val.load (i := 0) Tryd.isAgg30 rfl rfl rfl) rfl rfl rfl ?_
      refine At.val (Val.lenRow (i := 1) Tryd.underlying30 rfl rfl) rfl rfl rfl ?_
      have h249 := oL_le (area l)
      refine At.makeRow (n := (oL (area l)).length) (sz := 2) Tryd.underlying30 info_51 rfl rfl rfl rfl rfl (by show 16 * _ ≤ _; omega) (by omega) rfl (fun v10 => ?_)
      refine tA rfl rfl ?_
      refine tE ?_
      refine tR ?_
      refine tM rfl rfl ?_
      refine At.val (Val.field 1 rfl fo_76_1 rfl) rfl rfl rfl ?_
      refine At.val (Val.load (i := 1) Tryd.isAgg30 rfl rfl rfl) rfl rfl rfl ?_
      refine At.copyWhole (i := 0) (sz := 2) (ys := prS (oL (area l))) Tryd.underlying30 Tryd.sizeOf51 rfl rfl rfl (by decide) (fun w hw => row_rd (hw.row (i := 2) rfl) (by decide)) (prS_one _) rfl ?_
      simp only [sc0, scS]
      refine tE ?_
      refine tR ?_
      refine tM rfl rfl ?_
      refine tA rfl rfl ?_
      refine tA rfl rfl ?_
      refine tE ?_
      refine At.retC ?_
      refine At.ret2 (.inl rfl) rfl rfl rfl rfl (fun w hw => ?_)
      have e : (restE l p i c dt M) = 0 := by unfold restE; rw [if_neg (Classical.not_not.2 ⟨hg, hdt, hnl⟩), if_neg hct, if_neg hoe, if_neg hot, if_neg hol]
      have e2 : (restL l p i c dt M) = M := restL_yes e
      rw [e, e2]
      have hol' := Classical.not_not.1 hol
      rw [← hol']
      exact ⟨_, rfl, (hw.drop (List.singleton_sublist.2 (List.mem_of_getElem? (i := 0) rfl))).f0⟩
end Go.Proofs.YtpihenmdkoojdaaDoor
set_option linter.unusedVariables false
set_option linter.unusedSimpArgs false
namespace Go.Proofs.YtpihenmdkoojdaaDoor
open Go Go.Wk
end Go.Proofs.YtpihenmdkoojdaaDoor
set_option linter.unusedVariables false
set_option linter.unusedSimpArgs false
namespace Go.Proofs.YtpihenmdkoojdaaDoor
open Go Go.Wk
end Go.Proofs.YtpihenmdkoojdaaDoor
set_option linter.unusedVariables false
set_option linter.unusedSimpArgs false
namespace Go.Proofs.YtpihenmdkoojdaaDoor
open Go Go.Wk
def linesD : Nat → Ds → Nat → Ds
  | _, σ, 0 => σ
  | l, σ, c + 1 => linesD (l + 1) (lineD σ l) c
theorem linesE_calm : ∀ (c l : Nat) (σ : Ds), σ.armed = false → linesE l σ c = (0, linesD l σ c)
  | 0, l, σ, h => rfl
  | c + 1, l, σ, h => by
    rw [linesE_live (dead_of h), linesE_calm c (l + 1) _ ((lineD_rest σ l).2.1.trans h)]; rfl
theorem linesD_rest : ∀ (c l : Nat) (σ : Ds), (linesD l σ c).steps = σ.steps + c ∧ (linesD l σ c).armed = σ.armed ∧ (linesD l σ c).ws.length = σ.ws.length
  | 0, l, σ => ⟨rfl, rfl, rfl⟩
  | c + 1, l, σ => by
    obtain ⟨h1, h2, h3⟩ := linesD_rest c (l + 1) (lineD σ l)
    obtain ⟨g1, g2, g3⟩ := lineD_rest σ l
    exact ⟨by show (linesD (l + 1) (lineD σ l) c).steps = _; omega, h2.trans g2, h3.trans g3⟩
theorem linesD_at {k : Nat} : ∀ (c l : Nat) (σ : Ds) {w : Wd}, σ.ws[k]? = some w → ∃ m, (linesD l σ c).ws[k]? = some { w with mark := m } ∧ ((8 * l ≤ k ∧ k < 8 * (l + c)) → m = w.news.length) ∧ (¬ (8 * l ≤ k ∧ k < 8 * (l + c)) → m = w.mark)
  | 0, l, σ, w, h => ⟨w.mark, h, fun h => by omega, fun _ => rfl⟩
  | c + 1, l, σ, w, h => by
    obtain ⟨m, h1, h2, h3⟩ := flushK_at (σ := stepD σ) (f := 8 * l) h 8
    obtain ⟨m', g1, g2, g3⟩ := linesD_at c (l + 1) (lineD σ l) h1
    refine ⟨m', g1, fun hk => ?_, fun hk => ?_⟩
    · by_cases e : 8 * (l + 1) ≤ k
      · exact g2 ⟨e, by omega⟩
      · rw [g3 (by omega)]; exact h2 (by omega) (by omega)
    · rw [g3 (by omega)]; exact h3 (by omega)
theorem calm_fence {w : Wd} (hm : w.mark = w.news.length) : (fenceW w).news = [] ∧ (fenceW w).old = nowW w := by
  unfold fenceW
  split
  · have : w.news = [] := List.eq_nil_of_length_eq_zero (by omega)
    exact ⟨this, by unfold nowW; rw [this]; rfl⟩
  · refine ⟨List.drop_of_length_le (by show w.news.length ≤ w.mark; omega), ?_⟩
    show (w.news[w.mark - 1]?).getD w.old = nowW w
    unfold nowW
    rw [hm, ← List.getLast?_eq_getElem?]
theorem calm_now {w : Wd} (h : w.news = []) : nowW w = w.old := now_old h
/-- All flushed and fenced: nothing is in doubt, what is told stays. -/
theorem calm_all {σ σ' : Ds} (hl : σ'.ws.length = σ.ws.length) (h : ∀ (k : Nat) (w : Wd), σ.ws[k]? = some w → ∃ m, σ'.ws[k]? = some { w with mark := m } ∧ m = w.news.length) :
    (∀ w ∈ (fenceD (stepD σ')).ws, w.news = []) ∧ viewWs (fenceD (stepD σ')).ws = viewWs σ.ws := by
  have key : ∀ (k : Nat) (w : Wd), (fenceD (stepD σ')).ws[k]? = some w → ∃ u, σ.ws[k]? = some u ∧ w.news = [] ∧ w.old = nowW u := by
    intro k w hw
    have hk : k < σ.ws.length := by
      have := (List.getElem?_eq_some_iff.1 hw).1
      have e : (fenceD (stepD σ')).ws.length = σ'.ws.length := by simp [fenceD, stepD]
      omega
    obtain ⟨u, hu⟩ : ∃ u, σ.ws[k]? = some u := ⟨_, List.getElem?_eq_getElem hk⟩
    obtain ⟨m, h1, h2⟩ := h k u hu
    have h3 := fenceD_at (σ := stepD σ') h1
    rw [h3] at hw
    obtain rfl := Option.some.inj hw
    obtain ⟨c1, c2⟩ := calm_fence (w := { u with mark := m }) h2
    exact ⟨u, hu, c1, c2⟩
  refine ⟨fun w hw => ?_, ?_⟩
  · obtain ⟨k, hk⟩ := List.getElem?_of_mem hw
    exact (key k w hk).choose_spec.2.1
  · apply List.ext_getElem?
    intro k
    unfold viewWs
    rw [List.getElem?_map, List.getElem?_map]
    cases hw : (fenceD (stepD σ')).ws[k]? with
    | none =>
      have := List.getElem?_eq_none_iff.1 hw
      have e : (fenceD (stepD σ')).ws.length = σ'.ws.length := by simp [fenceD, stepD]
      rw [List.getElem?_eq_none (by omega : σ.ws.length ≤ k)]
    | some w =>
      obtain ⟨u, hu, h1, h2⟩ := key k w hw
      rw [hu]; exact congrArg some ((calm_now h1).trans h2)
theorem dk_nil {ws : List Wd} (h : ∀ w ∈ ws, w.news = []) : dk ws = [] := by
  apply List.eq_nil_iff_forall_not_mem.2
  intro k hk
  obtain ⟨w, hw, hn⟩ := mem_dk.1 hk
  exact hn (h w (List.mem_of_getElem? hw))
theorem picked_nil {ws : List Wd} (h : ∀ w ∈ ws, w.news = []) (pk : Nat → Nat → BitVec 64) : picked ws pk = viewWs ws := by
  unfold picked; rw [dk_nil h]
  show olds ws = _
  unfold olds viewWs
  exact List.map_congr_left fun w hw => (calm_now (h w hw)).symm
end Go.Proofs.YtpihenmdkoojdaaDoor
set_option linter.unusedVariables false
set_option linter.unusedSimpArgs false
namespace Go.Proofs.YtpihenmdkoojdaaDoor
open Go Go.Wk
end Go.Proofs.YtpihenmdkoojdaaDoor
set_option linter.unusedVariables false
set_option linter.unusedSimpArgs false
namespace Go.Wk
open Go
end Go.Wk
set_option linter.unusedVariables false
set_option linter.unusedSimpArgs false
namespace Go.Proofs.YtpihenmdkoojdaaDoor
open Go Go.Wk
theorem spB_append (a b : List (Int × Int)) : spB (a ++ b) = spB a ++ spB b := by simp [spB]
theorem list_at {α : Type} {L : List α} {j : Nat} {c : α} (h : L[j]? = some c) : L = L.take j ++ [c] ++ L.drop (j + 1) := by
  have hj : j < L.length := (List.getElem?_eq_some_iff.1 h).1
  conv => lhs; rw [← List.take_append_drop j L]
  rw [List.drop_eq_getElem_cons hj, List.append_assoc]
  rw [List.getElem?_eq_getElem hj] at h
  rw [Option.some.inj h]; rfl
theorem svB_at {T : BitVec 32} {S : List (Int × Int)} {j : Nat} {c : Int × Int} (h : S[j]? = some c) (h1 : c.1.toNat < 65536) (h2 : c.2.toNat < 65536) : num (svB T S) (24 + 4 * j) 2 = c.1.toNat ∧ num (svB T S) (24 + 4 * j + 2) 2 = c.2.toNat := by
  have hj : j < S.length := (List.getElem?_eq_some_iff.1 h).1
  have e3 : spB S = spB (S.take j) ++ (le 2 c.1.toNat ++ (le 2 c.2.toNat ++ spB (S.drop (j + 1)))) := by
    conv => lhs; rw [list_at h]
    rw [spB_append, spB_snoc]; simp only [List.append_assoc]
  have e2 : svB T S = (hd20 T S.length ++ le 4 (svSum T S).toNat ++ spB (S.take j)) ++ (le 2 c.1.toNat ++ (le 2 c.2.toNat ++ (spB (S.drop (j + 1)) ++ pad S.length))) := by
    unfold svB
    conv => lhs; rw [e3]
    simp only [List.append_assoc]
  have hl : (hd20 T S.length ++ le 4 (svSum T S).toNat ++ spB (S.take j)).length = 24 + 4 * j := by
    rw [List.length_append, List.length_append, hd20_length, le_length, spB_length, List.length_take]; omega
  refine ⟨num_appV e2 hl (by omega), num_appV (a := (hd20 T S.length ++ le 4 (svSum T S).toNat ++ spB (S.take j)) ++ le 2 c.1.toNat) (b := spB (S.drop (j + 1)) ++ pad S.length) ?_ ?_ (by omega)⟩
  · rw [e2]; simp only [List.append_assoc]
  · rw [List.length_append, hl, le_length]
theorem svB_T (T : BitVec 32) (S : List (Int × Int)) : num (svB T S) 8 4 = T.toNat :=
  num_appV (a := magic) (b := zs 4 ++ le 4 S.length ++ le 4 (svSum T S).toNat ++ spB S ++ pad S.length) (by unfold svB hd20; simp only [List.append_assoc]) rfl (by have := T.isLt; simpa using this)
theorem svB_N (T : BitVec 32) (S : List (Int × Int)) (h : S.length ≤ 249) : num (svB T S) 16 4 = S.length :=
  num_appV (a := magic ++ le 4 T.toNat ++ zs 4) (b := le 4 (svSum T S).toNat ++ spB S ++ pad S.length) (by unfold svB hd20; simp only [List.append_assoc]) (by simp only [List.length_append, le_length, zs_length]; rfl) (by omega)
theorem rec_ok {T : BitVec 32} {S : List (Int × Int)} {l : List UInt8} (hg : GoodSv T S) (hl : 24 + 4 * S.length ≤ l.length) (h : ∀ i, i < 24 + 4 * S.length → l[i]? = (svB T S)[i]?) : OkSv l ∧ svT l = T ∧ spRec l (svN l) = S ∧ svN l = S.length := by
  have h249 := hg.2.1
  have eT : svT l = T := by
    apply BitVec.eq_of_toNat_eq; rw [svT_nat, num_extV (m := svB T S) (fun i _ hi => h i (by omega)), svB_T]
  have eN : svN l = S.length := by unfold svN; rw [num_extV (m := svB T S) (fun i _ hi => h i (by omega)), svB_N T S h249]
  have eS : spRec l (svN l) = S := by
    rw [eN]
    apply List.ext_getElem?
    intro j
    by_cases hj : j < S.length
    · obtain ⟨c, hc⟩ : ∃ c, S[j]? = some c := ⟨_, List.getElem?_eq_getElem hj⟩
      have ho := hg.2.2 j c hj hc
      have hlo := lo_bd (k := j) (fun i d hi hd => hg.2.2 i d (by omega) hd) (by omega)
      unfold OkSp at ho
      have hu := svB_at (T := T) hc (by omega) (by omega)
      rw [hc]
      unfold spRec
      rw [List.getElem?_map, List.getElem?_range hj]
      show some _ = some _
      congr 1
      apply Prod.ext
      · show ((num l (24 + 4 * j) 2 : Nat) : Int) = c.1
        rw [num_extV (m := svB T S) (fun i _ hi => h i (by omega)), hu.1]; omega
      · show ((num l (24 + 4 * j + 2) 2 : Nat) : Int) = c.2
        rw [num_extV (m := svB T S) (fun i _ hi => h i (by omega)), hu.2]; omega
    · rw [List.getElem?_eq_none (by rw [spRec_length]; omega), List.getElem?_eq_none (by omega)]
  refine ⟨sv_back (by omega) (by omega) (by omega) (by rw [eT, eS]; exact hg) (fun i hi => ?_), eT, eS, eN⟩
  rw [eT, eS, svP_T hg]; exact (h i (by omega)).symm
end Go.Proofs.YtpihenmdkoojdaaDoor
