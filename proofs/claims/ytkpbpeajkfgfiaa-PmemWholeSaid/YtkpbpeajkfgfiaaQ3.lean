/- PmemWhole: the walk. -/
import Derived.Test.YtkpbpeajkfgfiaaQ2
set_option linter.unusedVariables false
set_option linter.unusedSimpArgs false
namespace Go.Proofs.Ytkpbpeajkfgfiaa
open Go Go.Wk

def Sto (N : Nat) (L : List Nt) (k : Nat) (z : BitVec 64) : Prop := ∃ c ∈ L, c.1 = 1 ∧ c.2.2 = z ∧ wordI c.2.1 N = k
theorem Sto.more {N : Nat} {L : List Nt} {k : Nat} {z : BitVec 64} {c : Nt} (h : Sto N L k z) : Sto N (L ++ [c]) k z := by
  obtain ⟨d, hd, h1⟩ := h; exact ⟨d, List.mem_append_left _ hd, h1⟩
theorem storedB_T {L : List Nt} {N k : Nat} {z : BitVec 64} : storedB L k z N = true ↔ Sto N (L.take 400) k z := by
  unfold storedB Sto
  rw [List.any_eq_true]
  simp only [decide_eq_true_eq]
def lastL (N : Nat) (L : List Nt) : List (BitVec 64) := L.foldl (fun l c => if c.1 = 1 then l.set (wordI c.2.1 N) c.2.2 else l) (List.replicate N 0)
theorem lastL_snoc (N : Nat) (L : List Nt) (c : Nt) : lastL N (L ++ [c]) = if c.1 = 1 then (lastL N L).set (wordI c.2.1 N) c.2.2 else lastL N L := by simp [lastL]
theorem lastL_length (N : Nat) (L : List Nt) : (lastL N L).length = N := by
  have : ∀ (L : List Nt) (l : List (BitVec 64)), (L.foldl (fun l c => if c.1 = 1 then l.set (wordI c.2.1 N) c.2.2 else l) l).length = l.length := by
    intro L
    induction L with
    | nil => intro l; rfl
    | cons c L ih => intro l; rw [List.foldl_cons, ih]; split <;> simp
  unfold lastL; rw [this, List.length_replicate]
theorem nowW_fence {w : Wd} (h : w.mark ≤ w.news.length) : nowW (fenceW w) = nowW w := by
  unfold fenceW
  split
  · rfl
  · rename_i hm
    unfold nowW
    simp only
    rw [List.getLast?_drop]
    split
    · have he : w.mark = w.news.length := by omega
      rw [List.getLast?_eq_getElem?, he]; simp only [Option.getD_none]
    · have hne : w.news ≠ [] := fun e => by rw [e] at h; simp at h; omega
      rw [List.getLast?_eq_some_getLast hne]; rfl
theorem lastL_nil (N : Nat) : lastL N [] = List.replicate N 0 := rfl
/-- What a script has left in each word. -/
def HInv (N : Nat) (L : List Nt) (σ : Ds) : Prop := σ.ws.length = N ∧ ∀ k w, σ.ws[k]? = some w → (lastL N L)[k]? = some (nowW w) ∧ (w.old = 0 ∨ Sto N L k w.old) ∧ (∀ z ∈ w.news, Sto N L k z) ∧ w.mark ≤ w.news.length
theorem hinv_start (N : Nat) : HInv N [] (zeroD N) := ⟨zeroD_len N, fun k w hk => by
  have hw := (List.mem_replicate.1 (List.mem_of_getElem? hk)).2
  have hkl : k < N := by have := (List.getElem?_eq_some_iff.1 hk).1; rwa [zeroD_len] at this
  subst hw
  exact ⟨by simp [lastL, hkl, nowW, zWd], .inl rfl, (fun z hz => by cases hz), Nat.le_refl _⟩⟩
theorem hinv_step {N : Nat} {L : List Nt} {σ : Ds} (c : Nt) (hN : 0 < N) (h : HInv N L σ) : HInv N (L ++ [c]) (noteD N σ c) := by
  obtain ⟨hl, hh⟩ := h
  refine ⟨(noteD_rest c hN hl).2.2.2, fun k w hk => ?_⟩
  rw [lastL_snoc]
  unfold noteD at hk
  split at hk
  · rename_i h1
    rw [if_pos h1]
    have hwl := wordI_lt c.2.1 hN
    obtain ⟨u, hu⟩ : ∃ u, σ.ws[wordI c.2.1 N]? = some u := ⟨_, List.getElem?_eq_getElem (by omega)⟩
    rw [hu] at hk
    obtain ⟨g1, g2, g3, g4⟩ := hh _ _ hu
    by_cases e : wordI c.2.1 N = k
    · subst e
      rw [setD_self (σ := stepD σ) hu] at hk
      have := Option.some.inj hk
      subst this
      refine ⟨?_, ?_, fun z hz => ?_, ?_⟩
      · rw [List.getElem?_set_self (by rw [lastL_length]; exact hwl)]; simp [nowW, pushW]
      · exact g2.imp id Sto.more
      · rcases List.mem_append.1 hz with hz | hz
        · exact (g3 z hz).more
        · rw [List.mem_singleton.1 hz]; exact ⟨c, by simp, h1, rfl, rfl⟩
      · simp only [pushW, List.length_append]; omega
    · have hk' : σ.ws[k]? = some w := by unfold setD at hk; simp only at hk; rw [List.getElem?_set_ne e] at hk; exact hk
      obtain ⟨f1, f2, f3, f4⟩ := hh _ _ hk'
      exact ⟨by rw [List.getElem?_set_ne e]; exact f1, f2.imp id Sto.more, fun z hz => (f3 z hz).more, f4⟩
  · rename_i h1
    rw [if_neg h1]
    split at hk
    · have hkl : k < σ.ws.length := by
        have := (List.getElem?_eq_some_iff.1 hk).1
        have h4 := (flushK_rest (stepD σ) (8 * (wordI c.2.1 N / 8)) 8).2.2.2.1
        rw [h4] at this; exact this
      obtain ⟨u, hu⟩ : ∃ u, σ.ws[k]? = some u := ⟨_, List.getElem?_eq_getElem hkl⟩
      obtain ⟨f1, f2, f3, f4⟩ := hh _ _ hu
      obtain ⟨m, e1, e2, e3⟩ := flushK_at (σ := stepD σ) (f := 8 * (wordI c.2.1 N / 8)) hu 8
      rw [e1] at hk
      have := Option.some.inj hk
      subst this
      refine ⟨f1, f2.imp id Sto.more, fun z hz => (f3 z hz).more, ?_⟩
      show m ≤ u.news.length
      by_cases e : 8 * (wordI c.2.1 N / 8) ≤ k ∧ k < 8 * (wordI c.2.1 N / 8) + 8
      · rw [e2 e.1 e.2]; exact Nat.le_refl _
      · rw [e3 e]; exact f4
    · have hkl : k < σ.ws.length := by
        have := (List.getElem?_eq_some_iff.1 hk).1
        simpa [fenceD, stepD] using this
      obtain ⟨u, hu⟩ : ∃ u, σ.ws[k]? = some u := ⟨_, List.getElem?_eq_getElem hkl⟩
      obtain ⟨f1, f2, f3, f4⟩ := hh _ _ hu
      rw [fenceD_at (σ := stepD σ) hu] at hk
      have := Option.some.inj hk
      subst this
      refine ⟨by rw [nowW_fence f4]; exact f1, ?_, fun z hz => ?_, ?_⟩
      · unfold fenceW
        split
        · exact f2.imp id Sto.more
        · simp only
          cases hz : u.news[u.mark - 1]? with
          | none => exact f2.imp id Sto.more
          | some z => exact .inr (f3 z (List.mem_of_getElem? hz)).more
      · unfold fenceW at hz
        split at hz
        · exact (f3 z hz).more
        · exact (f3 z (List.mem_of_mem_drop hz)).more
      · unfold fenceW
        split
        · exact f4
        · exact Nat.zero_le _
theorem hinv_run {N : Nat} (hN : 0 < N) (L : List Nt) : HInv N L (run N (zeroD N) L) := by
  have : ∀ n, HInv N (L.take n) (run N (zeroD N) (L.take n)) := by
    intro n
    induction n with
    | zero => rw [List.take_zero]; exact hinv_start N
    | succ n ih =>
      cases hq : L[n]? with
      | none =>
        have := List.getElem?_eq_none_iff.1 hq
        rw [List.take_of_length_le (by omega)]
        rw [List.take_of_length_le (by omega)] at ih
        exact ih
      | some c => rw [take_succ_of_get hq, run_snoc]; exact hinv_step c hN ih
  have := this L.length
  rwa [List.take_length] at this
theorem ite_or (c : Int) (o : BitVec 64) (l : List (BitVec 64)) : (if c = 0 then o else (l[(c - 1).toNat]?).getD o) = o ∨ (if c = 0 then o else (l[(c - 1).toNat]?).getD o) ∈ l := by
  by_cases h : c = 0
  · rw [if_pos h]; exact .inl rfl
  · rw [if_neg h]
    cases hz : l[(c - 1).toNat]? with
    | none => exact .inl rfl
    | some z => exact .inr (List.mem_of_getElem? hz)
theorem pickC_or (cs : List Int) (K : Nat) (w : Wd) : pickC cs K w = w.old ∨ pickC cs K w ∈ w.news := ite_or _ _ _
/-- What a crash leaves in a word: its old value or one of its news. -/
theorem picked_some {ws : List Wd} {cs : List Int} {k : Nat} {w : Wd} (hk : ws[k]? = some w) : ∃ z, (picked ws (pkC ws cs))[k]? = some z ∧ (z = w.old ∨ z ∈ w.news) := by
  by_cases hn : w.news = []
  · exact ⟨_, picked_old hk hn, .inl rfl⟩
  · obtain ⟨K, hK⟩ := dk_of hk hn
    refine ⟨_, picked_new hK, ?_⟩
    rw [pkC_at hk]
    exact pickC_or _ _ _


theorem stored_no {L : List Nt} {i k N : Nat} {x : BitVec 64} {q : Nt} (h : storedB (L.take i) k x N = false) (hi : i < 400) (hq : L[i]? = some q) (hn : ¬ (q.1 = 1 ∧ q.2.2 = x ∧ wordI q.2.1 N = k)) : storedB (L.take (i + 1)) k x N = false := by
  unfold storedB at h ⊢
  rw [take_succ_of_get hq, List.take_of_length_le (by rw [List.length_append, List.length_take]; simp; omega), List.any_append]
  rw [List.take_of_length_le (by rw [List.length_take]; omega)] at h
  rw [h]; simp only [List.any_cons, List.any_nil, Bool.or_false, Bool.false_or, decide_eq_false_iff_not]; exact hn
theorem stored_end {L : List Nt} {i k N : Nat} {x : BitVec 64} (h1 : i ≤ L.length) (h2 : i ≤ 400) (h : storedB (L.take i) k x N = false) (hn : ¬ (i < L.length ∧ i < 400)) : storedB L k x N = false := by
  rw [take_until h1 h2 hn] at h
  unfold storedB at h ⊢
  rwa [List.take_take, Nat.min_self] at h

theorem stored_p (v : Value) (L : List Nt) (k : Nat) (x : BitVec 64) (N : Nat) (w : World) (hv : RdN w v L) (hN : 0 < N) (hN' : N ≤ 65536) (hl : L.length ≤ 8796093022144) :
    PureC Try.prog 25 [v, .int .i64 (8 * (k : Int)), b64 x, .int .i64 (8 * (N : Int))] (.bool (storedB L k x N)) w := by
 refine enter0 Try.func25 rfl Try.ntmps25 rfl ?_
 simp only [envOf]
 refine tR ?_
 refine tA rfl rfl ?_
 refine tE ?_
 refine At.seq ?_
 refine tR ?_
 refine tA rfl rfl ?_
 refine tE ?_
 refine At.block ?_
 skip
 refine At.loop (σ := Nat) (fun i => i ≤ L.length ∧ i ≤ 400 ∧ storedB (L.take i) k x N = false) (fun i => [(0, v), (1, .int .i64 (8 * (k : Int))), (2, b64 x), (3, .int .i64 (8 * (N : Int))), (9, .int .i64 (i : Int))]) (fun i => []) (fun i => L.length - i) 0 ⟨Nat.zero_le _, Nat.zero_le _, rfl⟩ (Sub.cons rfl (Sub.cons rfl (Sub.cons rfl (Sub.cons rfl (Sub.cons rfl Sub.nil))))) (List.Perm.refl _) ?_
 intro i hs
 refine At.seq ?_
 refine tR ?_
 refine tM rfl rfl ?_
 refine tM rfl rfl ?_
 refine At.val (Val.lenRd hv Try.underlying22 rfl) rfl rfl rfl ?_
 refine At.val (Val.bin rfl rfl rfl) rfl rfl rfl ?_
 refine At.weaken [(0, _), (1, _), (2, _), (3, _), (9, _), (13, _)] (Sub.cons rfl (Sub.cons rfl (Sub.cons rfl (Sub.cons rfl (Sub.cons rfl (Sub.cons rfl Sub.nil)))))) ?_
 refine At.boolMeet 4 17 (decide (i < L.length ∧ i < 400)) ?_ ?_
 ·skip
  simp only [List.take_succ_cons, List.take_zero]
  refine tM rfl rfl ?_
  refine At.split (t := 14) rfl (fun h1 => ?_) (fun h1 => ?_)
  ·skip
   try simp only [hasB, isSizeB, Bool.not_eq_true', Bool.not_eq_false', bne_iff_ne, ne_eq, bne_eq_false_iff_eq, beq_iff_eq, beq_eq_false_iff_ne, decide_eq_true_eq, decide_eq_false_iff_not, gt_iff_lt, ge_iff_le] at h1
   refine At.yes rfl rfl ?_
   refine tM rfl rfl ?_
   refine At.yes rfl rfl ?_
   refine At.val (Val.bin rfl rfl rfl) rfl rfl rfl ?_
   refine At.val (Val.pickT rfl rfl) rfl rfl rfl ?_
   refine At.nil ?_
   exact At.boolEnd rfl (by apply Bool.eq_iff_iff.2; (simp only [decide_eq_true_eq, Bool.false_eq_true, false_iff, true_iff, gt_iff_lt, ge_iff_le]) <;> omega) (by repeat (first | exact Sub.nil | refine Sub.cons rfl ?_))
  ·skip
   try simp only [hasB, isSizeB, Bool.not_eq_true', Bool.not_eq_false', bne_iff_ne, ne_eq, bne_eq_false_iff_eq, beq_iff_eq, beq_eq_false_iff_ne, decide_eq_true_eq, decide_eq_false_iff_not, gt_iff_lt, ge_iff_le] at h1
   refine At.no rfl rfl rfl rfl ?_
   refine At.no rfl rfl rfl rfl ?_
   refine At.val (Val.pickF rfl rfl) rfl rfl rfl ?_
   refine At.nil ?_
   exact At.boolEnd rfl (by apply Bool.eq_iff_iff.2; (simp only [decide_eq_true_eq, Bool.false_eq_true, false_iff, true_iff, gt_iff_lt, ge_iff_le]) <;> omega) (by repeat (first | exact Sub.nil | refine Sub.cons rfl ?_))
 ·skip
  simp only [List.drop_succ_cons, List.drop_zero]
  refine tE ?_
  refine At.cond rfl (fun h2 => ?_) (fun h2 => ?_)
  ·skip
   try simp only [hasB, isSizeB, Bool.not_eq_true', Bool.not_eq_false', bne_iff_ne, ne_eq, bne_eq_false_iff_eq, beq_iff_eq, beq_eq_false_iff_ne, decide_eq_true_eq, decide_eq_false_iff_not, gt_iff_lt, ge_iff_le] at h2
   obtain ⟨q, hq⟩ : ∃ q, L[i]? = some q := ⟨_, List.getElem?_eq_getElem (by omega)⟩
   refine At.skipC ?_
   refine At.thenN ?_
   refine At.seq ?_
   refine At.block ?_
   refine tR ?_
   refine tM rfl rfl ?_
   refine tM rfl rfl ?_
   refine At.idxN hv Try.underlying22 Try.sizeOf32 rfl rfl (by omega) (by omega) rfl rfl (fun b3 o4 q5 hq6 hc7 hd8 he9 hO10 => ?_)
   obtain rfl : q = q5 := Option.some.inj (hq.symm.trans (by have := hq6; rwa [Int.toNat_natCast] at this))
   refine At.val (Val.field o4 rfl fo_32_0 rfl) rfl rfl rfl ?_
   refine At.val (Val.loadOld Try.isAgg3 rfl hc7 (fun h => h)) rfl rfl rfl ?_
   refine At.val (Val.bin rfl rfl rfl) rfl rfl rfl ?_
   refine At.weaken [(0, _), (1, _), (2, _), (3, _), (9, _), (13, _), (17, _), (25, _)] (Sub.cons rfl (Sub.cons rfl (Sub.cons rfl (Sub.cons rfl (Sub.cons rfl (Sub.cons rfl (Sub.cons rfl (Sub.cons rfl Sub.nil)))))))) ?_
   refine At.boolMeet 20 45 (decide (q.1 = 1 ∧ q.2.2 = x ∧ wordI q.2.1 N = k)) ?_ ?_
   ·skip
    simp only [List.take_succ_cons, List.take_zero]
    refine tM rfl rfl ?_
    refine At.split (t := 26) rfl (fun h11 => ?_) (fun h11 => ?_)
    ·skip
     try simp only [hasB, isSizeB, Bool.not_eq_true', Bool.not_eq_false', bne_iff_ne, ne_eq, bne_eq_false_iff_eq, beq_iff_eq, beq_eq_false_iff_ne, decide_eq_true_eq, decide_eq_false_iff_not, gt_iff_lt, ge_iff_le] at h11
     refine At.yes rfl rfl ?_
     refine tM rfl rfl ?_
     refine At.yes rfl rfl ?_
     refine tM rfl rfl ?_
     refine At.yes rfl rfl ?_
     refine At.idxN hv Try.underlying22 Try.sizeOf32 rfl rfl (by omega) (by omega) rfl rfl (fun b12 o13 q14 hq15 hc16 hd17 he18 hO19 => ?_)
     obtain rfl : q = q14 := Option.some.inj (hq.symm.trans (by have := hq15; rwa [Int.toNat_natCast] at this))
     refine At.yes rfl rfl ?_
     refine At.val (Val.field (o13 + 2) rfl fo_32_2 rfl) rfl rfl rfl ?_
     refine At.yes rfl rfl ?_
     refine At.val (Val.loadOld Try.isAgg30 rfl he18 (fun h => h)) rfl rfl rfl ?_
     refine At.yes rfl rfl ?_
     refine tM rfl rfl ?_
     refine At.yes rfl rfl ?_
     refine At.val (Val.bin rfl rfl rfl) rfl rfl rfl ?_
     refine At.val (Val.pickT rfl rfl) rfl rfl rfl ?_
     refine tM rfl rfl ?_
     refine At.split (t := 35) rfl (fun h20 => ?_) (fun h20 => ?_)
     ·skip
      try simp only [hasB, isSizeB, Bool.not_eq_true', Bool.not_eq_false', bne_iff_ne, ne_eq, bne_eq_false_iff_eq, beq_iff_eq, beq_eq_false_iff_ne, decide_eq_true_eq, decide_eq_false_iff_not, gt_iff_lt, ge_iff_le] at h20
      refine At.yes rfl rfl ?_
      refine tM rfl rfl ?_
      refine At.yes rfl rfl ?_
      refine tM rfl rfl ?_
      refine At.yes rfl rfl ?_
      refine At.idxN hv Try.underlying22 Try.sizeOf32 rfl rfl (by omega) (by omega) rfl rfl (fun b21 o22 q23 hq24 hc25 hd26 he27 hO28 => ?_)
      obtain rfl : q = q23 := Option.some.inj (hq.symm.trans (by have := hq24; rwa [Int.toNat_natCast] at this))
      refine At.yes rfl rfl ?_
      refine At.val (Val.field (o22 + 1) rfl fo_32_1 rfl) rfl rfl rfl ?_
      refine At.yes rfl rfl ?_
      refine At.val (Val.loadOld Try.isAgg3 rfl hd26 (fun h => h)) rfl rfl rfl ?_
      refine At.yes rfl rfl ?_
      refine tM rfl rfl ?_
      refine At.yes rfl rfl ?_
      refine At.callP (fun w hw => word_p _ _ w (by omega) (by omega)) Try.call23 rfl rfl ?_
      refine At.yes rfl rfl ?_
      refine tM rfl rfl ?_
      refine At.yes rfl rfl ?_
      refine At.val (Val.bin rfl rfl rfl) rfl rfl rfl ?_
      refine At.val (Val.pickT rfl rfl) rfl rfl rfl ?_
      refine At.nil ?_
      exact At.boolEnd rfl (by apply Bool.eq_iff_iff.2; (simp only [decide_eq_true_eq, Bool.false_eq_true, false_iff, true_iff, beq_iff_eq, bne_iff_ne, ne_eq, ← BitVec.toNat_inj]) <;> omega) (by repeat (first | exact Sub.nil | refine Sub.cons rfl ?_))
     ·skip
      try simp only [hasB, isSizeB, Bool.not_eq_true', Bool.not_eq_false', bne_iff_ne, ne_eq, bne_eq_false_iff_eq, beq_iff_eq, beq_eq_false_iff_ne, decide_eq_true_eq, decide_eq_false_iff_not, gt_iff_lt, ge_iff_le] at h20
      refine At.no rfl rfl rfl rfl ?_
      refine At.no rfl rfl rfl rfl ?_
      refine At.no rfl rfl rfl rfl ?_
      refine At.no rfl rfl rfl rfl ?_
      refine At.no rfl rfl rfl rfl ?_
      refine At.no rfl rfl rfl rfl ?_
      refine At.no rfl rfl rfl rfl ?_
      refine At.no rfl rfl rfl rfl ?_
      refine At.no rfl rfl rfl rfl ?_
      refine At.val (Val.pickF rfl rfl) rfl rfl rfl ?_
      refine At.nil ?_
      exact At.boolEnd rfl (by apply Bool.eq_iff_iff.2; (simp only [decide_eq_true_eq, Bool.false_eq_true, false_iff, true_iff, beq_iff_eq, bne_iff_ne, ne_eq, ← BitVec.toNat_inj]) <;> omega) (by repeat (first | exact Sub.nil | refine Sub.cons rfl ?_))
    ·skip
     try simp only [hasB, isSizeB, Bool.not_eq_true', Bool.not_eq_false', bne_iff_ne, ne_eq, bne_eq_false_iff_eq, beq_iff_eq, beq_eq_false_iff_ne, decide_eq_true_eq, decide_eq_false_iff_not, gt_iff_lt, ge_iff_le] at h11
     refine At.no rfl rfl rfl rfl ?_
     refine At.no rfl rfl rfl rfl ?_
     refine At.no rfl rfl rfl rfl ?_
     refine At.no rfl rfl rfl rfl ?_
     refine At.no rfl rfl rfl rfl ?_
     refine At.no rfl rfl rfl rfl ?_
     refine At.no rfl rfl rfl rfl ?_
     refine At.val (Val.pickF rfl rfl) rfl rfl rfl ?_
     refine tM rfl rfl ?_
     refine At.no rfl rfl rfl rfl ?_
     refine At.no rfl rfl rfl rfl ?_
     refine At.no rfl rfl rfl rfl ?_
     refine At.no rfl rfl rfl rfl ?_
     refine At.no rfl rfl rfl rfl ?_
     refine At.no rfl rfl rfl rfl ?_
     refine At.no rfl rfl rfl rfl ?_
     refine At.no rfl rfl rfl rfl ?_
     refine At.no rfl rfl rfl rfl ?_
     refine At.val (Val.pickF rfl rfl) rfl rfl rfl ?_
     refine At.nil ?_
     exact At.boolEnd rfl (by apply Bool.eq_iff_iff.2; (simp only [decide_eq_true_eq, Bool.false_eq_true, false_iff, true_iff, beq_iff_eq, bne_iff_ne, ne_eq, ← BitVec.toNat_inj]) <;> omega) (by repeat (first | exact Sub.nil | refine Sub.cons rfl ?_))
   ·skip
    simp only [List.drop_succ_cons, List.drop_zero]
    refine tE ?_
    refine At.cond rfl (fun h29 => ?_) (fun h29 => ?_)
    ·skip
     try simp only [hasB, isSizeB, Bool.not_eq_true', Bool.not_eq_false', bne_iff_ne, ne_eq, bne_eq_false_iff_eq, beq_iff_eq, beq_eq_false_iff_ne, decide_eq_true_eq, decide_eq_false_iff_not, gt_iff_lt, ge_iff_le] at h29
     refine tR ?_
     refine tA rfl rfl ?_
     refine tE ?_
     refine At.retC ?_
     refine At.blkR ?_
     refine At.thenR ?_
     refine At.thenR ?_
     refine At.blkR ?_
     refine At.thenR ?_
     refine At.ret1 (.inl rfl) rfl rfl rfl (fun w hw => ?_)
     exact ⟨congrArg (fun b => Ending.returned (.bool b)) (storedB_T.2 ⟨q, List.mem_take_iff_getElem.2 ⟨i, by have := (List.getElem?_eq_some_iff.1 hq).1; omega, (List.getElem?_eq_some_iff.1 hq).2⟩, by assumption⟩).symm, hw.mod⟩
    ·skip
     try simp only [hasB, isSizeB, Bool.not_eq_true', Bool.not_eq_false', bne_iff_ne, ne_eq, bne_eq_false_iff_eq, beq_iff_eq, beq_eq_false_iff_ne, decide_eq_true_eq, decide_eq_false_iff_not, gt_iff_lt, ge_iff_le] at h29
     refine At.skipC ?_
     refine At.blkN ?_
     refine At.thenN ?_
     refine At.region ?_
     refine tM rfl rfl ?_
     first | refine At.val (Val.addI rfl rfl (by omega) (by omega)) rfl rfl rfl ?_ | refine At.val (Val.bin rfl rfl rfl) rfl rfl rfl ?_
     refine tA rfl rfl ?_
     refine tE ?_
     exact At.again (i + 1) ⟨(by omega), (by omega), stored_no hs.2.2 (by omega) hq (by assumption)⟩ (by omega) (Sub.cons rfl (Sub.cons rfl (Sub.cons rfl (Sub.cons rfl (Sub.cons (congrArg (fun z => some (Value.int IntKind.i64 z)) (by omega)) Sub.nil))))) (List.Perm.refl _)
  ·skip
   try simp only [hasB, isSizeB, Bool.not_eq_true', Bool.not_eq_false', bne_iff_ne, ne_eq, bne_eq_false_iff_eq, beq_iff_eq, beq_eq_false_iff_ne, decide_eq_true_eq, decide_eq_false_iff_not, gt_iff_lt, ge_iff_le] at h2
   refine At.exitC ?_
   refine At.thenX ?_
   refine At.thenX ?_
   refine At.blkX ?_
   refine At.thenN ?_
   refine tR ?_
   refine tA rfl rfl ?_
   refine tE ?_
   refine At.retC ?_
   refine At.ret1 (.inl rfl) rfl rfl rfl (fun w hw => ?_)
   exact ⟨congrArg (fun b => Ending.returned (.bool b)) (stored_end hs.1 hs.2.1 hs.2.2 (by assumption)).symm, hw.mod⟩

theorem lawWhole_p (pg : Int) (v1 v2 : Value) (L : List Nt) (cs : List Int) (w : World) (hv1 : RdN w v1 L) (hv2 : RdI w v2 cs) (hl1 : L.length ≤ 8796093022144) :
    PureC Try.prog 3 [.int .i64 pg, v1, v2] (.bool true) w := by
 refine enter0 Try.func3 rfl Try.ntmps3 rfl ?_
 obtain ⟨N, hNe⟩ : ∃ N, N = sizeW pg := ⟨_, rfl⟩
 obtain ⟨hN1, hN2, hN3⟩ := sizeW_ok pg
 have hsz := sizeW_size pg
 rw [← hNe] at hN1 hN2 hN3 hsz
 have hN0 : 0 < N := by omega
 simp only [envOf]
 refine tR ?_
 refine tA rfl rfl ?_
 refine tE ?_
 refine tR ?_
 refine tM rfl rfl ?_
 refine At.callP (fun w hw => size_p _ w) Try.call18 rfl rfl ?_
 refine tA rfl rfl ?_
 refine At.nil ?_
 rw [← hNe]
 refine At.thenN ?_
 refine tR ?_
 refine tM rfl rfl ?_
 refine At.callNB (fun w hw => made_d _ N w hsz rfl) Try.call19 rfl rfl (fun p1 y2 => ?_)
 refine tM rfl rfl ?_
 refine At.val (Val.extract rfl rfl) rfl rfl rfl ?_
 refine At.val (Val.extract rfl rfl) rfl rfl rfl ?_
 refine tA rfl rfl ?_
 refine tA rfl rfl ?_
 refine tE ?_
 refine At.seq ?_
 refine tR ?_
 refine tM rfl rfl ?_
 refine At.val (Val.not rfl) rfl rfl rfl ?_
 refine tE ?_
 refine At.condF rfl ?_
 refine At.skipC ?_
 refine At.thenN ?_
 refine At.seq ?_
 refine tR ?_
 refine tA rfl rfl ?_
 refine tE ?_
 refine At.block ?_
 skip
 refine At.loop (σ := Nat × Gh) (fun s => s.1 ≤ L.length ∧ s.1 ≤ 400) (fun s => [(1, v1), (7, .int .i64 (8 * (N : Int))), (2, v2), (8, .pointer (some ⟨p1, 0, none⟩)), (10, .int .i64 (s.1 : Int))]) (fun s => [Dev p1 s.2 (run N (zeroD N) (L.take s.1))]) (fun s => L.length - s.1) (0, y2) ⟨Nat.zero_le _, Nat.zero_le _⟩ (Sub.cons rfl (Sub.cons rfl (Sub.cons rfl (Sub.cons rfl (Sub.cons rfl Sub.nil))))) (List.Perm.refl _) ?_
 intro s hs
 obtain ⟨k, γ⟩ := s
 dsimp only at hs ⊢
 obtain ⟨hst, har, hle⟩ := run_rest hN0 (L.take k) (zeroD N) (zeroD_len N) rfl
 have hst' : (run N (zeroD N) (L.take k)).steps ≤ 400 := by rw [hst, List.length_take]; show 0 + _ ≤ _; omega
 refine At.seq ?_
 refine tR ?_
 refine tM rfl rfl ?_
 refine tM rfl rfl ?_
 refine At.val (Val.lenRd hv1 Try.underlying22 rfl) rfl rfl rfl ?_
 refine At.val (Val.bin rfl rfl rfl) rfl rfl rfl ?_
 refine At.weaken [(1, _), (7, _), (2, _), (8, _), (10, _), (33, _)] (Sub.cons rfl (Sub.cons rfl (Sub.cons rfl (Sub.cons rfl (Sub.cons rfl (Sub.cons rfl Sub.nil)))))) ?_
 refine At.boolMeet 4 37 (decide (k < L.length ∧ k < 400)) ?_ ?_
 ·skip
  simp only [List.take_succ_cons, List.take_zero]
  refine tM rfl rfl ?_
  refine At.split (t := 34) rfl (fun h3 => ?_) (fun h3 => ?_)
  ·skip
   try simp only [hasB, isSizeB, Bool.not_eq_true', Bool.not_eq_false', bne_iff_ne, ne_eq, bne_eq_false_iff_eq, beq_iff_eq, beq_eq_false_iff_ne, decide_eq_true_eq, decide_eq_false_iff_not, gt_iff_lt, ge_iff_le] at h3
   refine At.yes rfl rfl ?_
   refine tM rfl rfl ?_
   refine At.yes rfl rfl ?_
   refine At.val (Val.bin rfl rfl rfl) rfl rfl rfl ?_
   refine At.val (Val.pickT rfl rfl) rfl rfl rfl ?_
   refine At.nil ?_
   exact At.boolEnd rfl (by apply Bool.eq_iff_iff.2; (simp only [decide_eq_true_eq, Bool.false_eq_true, false_iff, true_iff, gt_iff_lt, ge_iff_le]) <;> omega) (by repeat (first | exact Sub.nil | refine Sub.cons rfl ?_))
  ·skip
   try simp only [hasB, isSizeB, Bool.not_eq_true', Bool.not_eq_false', bne_iff_ne, ne_eq, bne_eq_false_iff_eq, beq_iff_eq, beq_eq_false_iff_ne, decide_eq_true_eq, decide_eq_false_iff_not, gt_iff_lt, ge_iff_le] at h3
   refine At.no rfl rfl rfl rfl ?_
   refine At.no rfl rfl rfl rfl ?_
   refine At.val (Val.pickF rfl rfl) rfl rfl rfl ?_
   refine At.nil ?_
   exact At.boolEnd rfl (by apply Bool.eq_iff_iff.2; (simp only [decide_eq_true_eq, Bool.false_eq_true, false_iff, true_iff, gt_iff_lt, ge_iff_le]) <;> omega) (by repeat (first | exact Sub.nil | refine Sub.cons rfl ?_))
 ·skip
  simp only [List.drop_succ_cons, List.drop_zero]
  refine tE ?_
  refine At.cond rfl (fun h4 => ?_) (fun h4 => ?_)
  ·skip
   try simp only [hasB, isSizeB, Bool.not_eq_true', Bool.not_eq_false', bne_iff_ne, ne_eq, bne_eq_false_iff_eq, beq_iff_eq, beq_eq_false_iff_ne, decide_eq_true_eq, decide_eq_false_iff_not, gt_iff_lt, ge_iff_le] at h4
   obtain ⟨q, hq⟩ : ∃ q, L[k]? = some q := ⟨_, List.getElem?_eq_getElem (by omega)⟩
   refine At.skipC ?_
   refine At.thenN ?_
   refine At.seq ?_
   refine At.block ?_
   refine tR ?_
   refine tM rfl rfl ?_
   refine tM rfl rfl ?_
   refine tM rfl rfl ?_
   refine At.idxN hv1 Try.underlying22 Try.sizeOf32 rfl rfl (by omega) (by omega) rfl rfl (fun b5 o6 q7 hq8 hc9 hd10 he11 hO12 => ?_)
   obtain rfl : q = q7 := Option.some.inj (hq.symm.trans (by have := hq8; rwa [Int.toNat_natCast] at this))
   refine At.val (Val.loadN Try.isAgg32 Try.sizeOf32 rfl hc9 hd10 he11 (fun h => h)) rfl rfl rfl ?_
   refine tM rfl rfl ?_
   refine At.callD 0 rfl (fun w hw hr => note_d _ _ _ q N w hle (by omega) (dead_of har) hr) Try.call20 rfl rfl (fun y13 => ?_)
   simp only [sc0, scS]
   refine tA rfl rfl ?_
   refine tE ?_
   refine tR ?_
   refine tM rfl rfl ?_
   refine At.val (Val.bin rfl rfl rfl) rfl rfl rfl ?_
   refine tE ?_
   refine At.condF rfl ?_
   refine At.skipC ?_
   refine At.blkN ?_
   refine At.thenN ?_
   refine At.region ?_
   refine tM rfl rfl ?_
   first | refine At.val (Val.addI rfl rfl (by omega) (by omega)) rfl rfl rfl ?_ | refine At.val (Val.bin rfl rfl rfl) rfl rfl rfl ?_
   refine tA rfl rfl ?_
   refine tE ?_
   exact At.again (k + 1, y13) ⟨(show k + 1 ≤ _ by omega), (show k + 1 ≤ 400 by omega)⟩ (by dsimp only; omega) (Sub.cons rfl (Sub.cons rfl (Sub.cons rfl (Sub.cons rfl (Sub.cons (congrArg (fun z => some (Value.int IntKind.i64 z)) (by omega)) Sub.nil))))) (by rw [take_succ_of_get hq, run_snoc])
  ·skip
   try simp only [hasB, isSizeB, Bool.not_eq_true', Bool.not_eq_false', bne_iff_ne, ne_eq, bne_eq_false_iff_eq, beq_iff_eq, beq_eq_false_iff_ne, decide_eq_true_eq, decide_eq_false_iff_not, gt_iff_lt, ge_iff_le] at h4
   have htk := take_until hs.1 hs.2 (by assumption)
   have hinv := hinv_run hN0 (L.take k)
   rw [htk] at hinv hle har
   rw [htk]
   generalize run N (zeroD N) (L.take 400) = σ1 at *
   refine At.exitC ?_
   refine At.thenX ?_
   refine At.thenX ?_
   refine At.blkX ?_
   refine At.thenN ?_
   refine tR ?_
   refine tM rfl rfl ?_
   refine tM rfl rfl ?_
   refine At.callRK 0 rfl (fun w hw hr => crash_k _ _ _ v2 cs w (hv2.mod hw.mod) (hv2.off (hw.newFoot (List.mem_of_getElem? (i := 0) rfl))) hr) Try.call21 rfl rfl (fun v14 => ?_)
   refine tA rfl rfl ?_
   refine tE ?_
   refine tR ?_
   refine tM rfl rfl ?_
   refine At.callRK 1 rfl (fun w hw hr => view_k _ _ _ w hr) Try.call22 rfl rfl (fun v15 => ?_)
   refine tA rfl rfl ?_
   refine At.nil ?_
   have hlc : (wbytes (picked σ1.ws (pkC σ1.ws cs))).length = 8 * N := by rw [wbytes_length, picked_length, hle]
   have hlv : (wbytes (viewWs σ1.ws)).length = 8 * N := by rw [wbytes_length, viewWs, List.length_map, hle]
   refine At.thenN ?_
   refine At.seq ?_
   refine tR ?_
   refine tM rfl rfl ?_
   refine At.val (Val.lenRow (i := 1) Try.underlying33 rfl rfl) rfl rfl rfl ?_
   refine tM rfl rfl ?_
   refine At.val (Val.bin rfl rfl rfl) rfl rfl rfl ?_
   refine tM rfl rfl ?_
   refine At.split (t := 58) rfl (fun h16 => ?_) (fun h16 => ?_)
   ·skip
    try simp only [hasB, isSizeB, Bool.not_eq_true', Bool.not_eq_false', bne_iff_ne, ne_eq, bne_eq_false_iff_eq, beq_iff_eq, beq_eq_false_iff_ne, decide_eq_true_eq, decide_eq_false_iff_not, gt_iff_lt, ge_iff_le] at h16
    rw [hlc] at h16; omega
   ·skip
    try simp only [hasB, isSizeB, Bool.not_eq_true', Bool.not_eq_false', bne_iff_ne, ne_eq, bne_eq_false_iff_eq, beq_iff_eq, beq_eq_false_iff_ne, decide_eq_true_eq, decide_eq_false_iff_not, gt_iff_lt, ge_iff_le] at h16
    refine At.yes rfl rfl ?_
    refine tM rfl rfl ?_
    refine At.yes rfl rfl ?_
    refine At.val (Val.lenRow (i := 0) Try.underlying33 rfl rfl) rfl rfl rfl ?_
    refine At.yes rfl rfl ?_
    refine tM rfl rfl ?_
    refine At.yes rfl rfl ?_
    refine At.val (Val.bin rfl rfl rfl) rfl rfl rfl ?_
    refine At.val (Val.pickF rfl rfl) rfl rfl rfl ?_
    refine tE ?_
    refine At.cond rfl (fun h17 => ?_) (fun h17 => ?_)
    ·skip
     try simp only [hasB, isSizeB, Bool.not_eq_true', Bool.not_eq_false', bne_iff_ne, ne_eq, bne_eq_false_iff_eq, beq_iff_eq, beq_eq_false_iff_ne, decide_eq_true_eq, decide_eq_false_iff_not, gt_iff_lt, ge_iff_le] at h17
     rw [hlv] at h17; omega
    ·skip
     try simp only [hasB, isSizeB, Bool.not_eq_true', Bool.not_eq_false', bne_iff_ne, ne_eq, bne_eq_false_iff_eq, beq_iff_eq, beq_eq_false_iff_ne, decide_eq_true_eq, decide_eq_false_iff_not, gt_iff_lt, ge_iff_le] at h17
     refine At.skipC ?_
     refine At.thenN ?_
     refine tR ?_
     refine tM rfl rfl ?_
     refine At.val (Val.quoI rfl rfl (by omega) (by omega) (by decide)) rfl rfl rfl ?_
     rw [show 8 * (N : Int) / 8 = (N : Int) from by omega]
     refine At.makeRowW (n := N) Try.underlying36 info_30 rfl rfl rfl rfl rfl (by omega) rfl (fun v18 => ?_)
     refine tA rfl rfl ?_
     refine tE ?_
     refine At.seq ?_
     refine tR ?_
     refine tA rfl rfl ?_
     refine tE ?_
     refine At.block ?_
     skip
     refine At.loop (σ := Nat) (fun i => i ≤ L.length ∧ i ≤ 400) (fun i => [(1, v1), (7, .int .i64 (8 * (N : Int))), (12, v14), (13, v15), (14, v18), (15, .int .i64 (i : Int))]) (fun i => [wrow tW v18 (lastL N (L.take i)), rowR v15 5 1 ((wbytes (viewWs σ1.ws)).length) ((wbytes (viewWs σ1.ws)).map bv), rowR v14 5 1 ((wbytes (picked σ1.ws (pkC σ1.ws cs))).length) ((wbytes (picked σ1.ws (pkC σ1.ws cs))).map bv), Dev p1 γ (σ1)]) (fun i => L.length - i) 0 ⟨Nat.zero_le _, Nat.zero_le _⟩ (Sub.cons rfl (Sub.cons rfl (Sub.cons rfl (Sub.cons rfl (Sub.cons rfl (Sub.cons rfl Sub.nil)))))) (by rw [List.take_zero, lastL_nil]) ?_
     intro i hs
     have hlw := lastL_length N (L.take i)
     refine At.seq ?_
     refine tR ?_
     refine tM rfl rfl ?_
     refine tM rfl rfl ?_
     refine At.val (Val.lenRd hv1 Try.underlying22 rfl) rfl rfl rfl ?_
     refine At.val (Val.bin rfl rfl rfl) rfl rfl rfl ?_
     refine At.weaken [(1, _), (7, _), (12, _), (13, _), (14, _), (15, _), (70, _)] (Sub.cons rfl (Sub.cons rfl (Sub.cons rfl (Sub.cons rfl (Sub.cons rfl (Sub.cons rfl (Sub.cons rfl Sub.nil))))))) ?_
     refine At.boolMeet 4 74 (decide (i < L.length ∧ i < 400)) ?_ ?_
     ·skip
      simp only [List.take_succ_cons, List.take_zero]
      refine tM rfl rfl ?_
      refine At.split (t := 71) rfl (fun h19 => ?_) (fun h19 => ?_)
      ·skip
       try simp only [hasB, isSizeB, Bool.not_eq_true', Bool.not_eq_false', bne_iff_ne, ne_eq, bne_eq_false_iff_eq, beq_iff_eq, beq_eq_false_iff_ne, decide_eq_true_eq, decide_eq_false_iff_not, gt_iff_lt, ge_iff_le] at h19
       refine At.yes rfl rfl ?_
       refine tM rfl rfl ?_
       refine At.yes rfl rfl ?_
       refine At.val (Val.bin rfl rfl rfl) rfl rfl rfl ?_
       refine At.val (Val.pickT rfl rfl) rfl rfl rfl ?_
       refine At.nil ?_
       exact At.boolEnd rfl (by apply Bool.eq_iff_iff.2; (simp only [decide_eq_true_eq, Bool.false_eq_true, false_iff, true_iff, gt_iff_lt, ge_iff_le]) <;> omega) (by repeat (first | exact Sub.nil | refine Sub.cons rfl ?_))
      ·skip
       try simp only [hasB, isSizeB, Bool.not_eq_true', Bool.not_eq_false', bne_iff_ne, ne_eq, bne_eq_false_iff_eq, beq_iff_eq, beq_eq_false_iff_ne, decide_eq_true_eq, decide_eq_false_iff_not, gt_iff_lt, ge_iff_le] at h19
       refine At.no rfl rfl rfl rfl ?_
       refine At.no rfl rfl rfl rfl ?_
       refine At.val (Val.pickF rfl rfl) rfl rfl rfl ?_
       refine At.nil ?_
       exact At.boolEnd rfl (by apply Bool.eq_iff_iff.2; (simp only [decide_eq_true_eq, Bool.false_eq_true, false_iff, true_iff, gt_iff_lt, ge_iff_le]) <;> omega) (by repeat (first | exact Sub.nil | refine Sub.cons rfl ?_))
     ·skip
      simp only [List.drop_succ_cons, List.drop_zero]
      refine tE ?_
      refine At.cond rfl (fun h20 => ?_) (fun h20 => ?_)
      ·skip
       try simp only [hasB, isSizeB, Bool.not_eq_true', Bool.not_eq_false', bne_iff_ne, ne_eq, bne_eq_false_iff_eq, beq_iff_eq, beq_eq_false_iff_ne, decide_eq_true_eq, decide_eq_false_iff_not, gt_iff_lt, ge_iff_le] at h20
       obtain ⟨q, hq⟩ : ∃ q, L[i]? = some q := ⟨_, List.getElem?_eq_getElem (by omega)⟩
       have hqw := wordI_lt q.2.1 hN0
       refine At.skipC ?_
       refine At.thenN ?_
       refine At.seq ?_
       refine At.block ?_
       refine tR ?_
       refine tM rfl rfl ?_
       refine tM rfl rfl ?_
       refine At.idxN hv1 Try.underlying22 Try.sizeOf32 rfl rfl (by omega) (by omega) rfl rfl (fun b21 o22 q23 hq24 hc25 hd26 he27 hO28 => ?_)
       obtain rfl : q = q23 := Option.some.inj (hq.symm.trans (by have := hq24; rwa [Int.toNat_natCast] at this))
       refine At.val (Val.field o22 rfl fo_32_0 rfl) rfl rfl rfl ?_
       refine At.val (Val.loadOld Try.isAgg3 rfl hc25 (fun h => h)) rfl rfl rfl ?_
       refine At.val (Val.bin rfl rfl rfl) rfl rfl rfl ?_
       refine tE ?_
       refine At.cond rfl (fun h29 => ?_) (fun h29 => ?_)
       ·skip
        try simp only [hasB, isSizeB, Bool.not_eq_true', Bool.not_eq_false', bne_iff_ne, ne_eq, bne_eq_false_iff_eq, beq_iff_eq, beq_eq_false_iff_ne, decide_eq_true_eq, decide_eq_false_iff_not, gt_iff_lt, ge_iff_le] at h29
        refine At.tail 15 rfl (by decide +kernel) ?_
        simp only [List.take_succ_cons, List.take_zero, List.drop_succ_cons, List.drop_zero]
        refine qM rfl rfl ?_
        refine qM rfl rfl ?_
        refine qM rfl rfl ?_
        refine QAt.idxN hv1 Try.underlying22 Try.sizeOf32 rfl rfl (by omega) (by omega) rfl rfl (fun b30 o31 q32 hq33 hc34 hd35 he36 hO37 => ?_)
        obtain rfl : q = q32 := Option.some.inj (hq.symm.trans (by have := hq33; rwa [Int.toNat_natCast] at this))
        refine QAt.val (Val.field (o31 + 1) rfl fo_32_1 rfl) rfl rfl rfl ?_
        refine QAt.val (Val.loadOld Try.isAgg3 rfl hd35 (fun h => h)) rfl rfl rfl ?_
        refine qM rfl rfl ?_
        refine QAt.callP (fun w hw => word_p _ _ w (by omega) (by omega)) Try.call23 rfl rfl ?_
        refine QAt.val (Val.quoI rfl rfl (by omega) (by omega) (by decide)) rfl rfl rfl ?_
        rw [show 8 * (wordI q.2.1 N : Int) / 8 = (wordI q.2.1 N : Int) from by omega]
        refine qM rfl rfl ?_
        refine qM rfl rfl ?_
        refine QAt.idxN hv1 Try.underlying22 Try.sizeOf32 rfl rfl (by omega) (by omega) rfl rfl (fun b38 o39 q40 hq41 hc42 hd43 he44 hO45 => ?_)
        obtain rfl : q = q40 := Option.some.inj (hq.symm.trans (by have := hq41; rwa [Int.toNat_natCast] at this))
        refine QAt.val (Val.field (o39 + 2) rfl fo_32_2 rfl) rfl rfl rfl ?_
        refine QAt.val (Val.loadOld Try.isAgg30 rfl he44 (fun h => h)) rfl rfl rfl ?_
        refine QAt.val (Val.indexRow (i := 0) (wordI q.2.1 N) (by omega) Try.underlying36 Try.sizeOf30 rfl rfl rfl (by omega) (by omega)) rfl rfl rfl ?_
        refine QAt.fin ?_
        refine At.storeRow (i := 0) Try.sizeOf30 rfl rfl rfl rfl (by rw [List.length_map]; omega) ?_
        simp only [sc0, scS]
        rw [← List.map_set, show (lastL N (L.take i)).length = ((lastL N (L.take i)).set (wordI q.2.1 N) q.2.2).length from by rw [List.length_set]]
        refine At.nil ?_
        refine At.blkN ?_
        refine At.thenN ?_
        refine At.region ?_
        refine tM rfl rfl ?_
        first | refine At.val (Val.addI rfl rfl (by omega) (by omega)) rfl rfl rfl ?_ | refine At.val (Val.bin rfl rfl rfl) rfl rfl rfl ?_
        refine tA rfl rfl ?_
        refine tE ?_
        exact At.again (i + 1) ⟨(by omega), (by omega)⟩ (by omega) (Sub.cons rfl (Sub.cons rfl (Sub.cons rfl (Sub.cons rfl (Sub.cons rfl (Sub.cons (congrArg (fun z => some (Value.int IntKind.i64 z)) (by omega)) Sub.nil)))))) (by rw [take_succ_of_get hq, lastL_snoc, if_pos (by assumption)])
       ·skip
        try simp only [hasB, isSizeB, Bool.not_eq_true', Bool.not_eq_false', bne_iff_ne, ne_eq, bne_eq_false_iff_eq, beq_iff_eq, beq_eq_false_iff_ne, decide_eq_true_eq, decide_eq_false_iff_not, gt_iff_lt, ge_iff_le] at h29
        refine At.skipC ?_
        refine At.blkN ?_
        refine At.thenN ?_
        refine At.region ?_
        refine tM rfl rfl ?_
        first | refine At.val (Val.addI rfl rfl (by omega) (by omega)) rfl rfl rfl ?_ | refine At.val (Val.bin rfl rfl rfl) rfl rfl rfl ?_
        refine tA rfl rfl ?_
        refine tE ?_
        exact At.again (i + 1) ⟨(by omega), (by omega)⟩ (by omega) (Sub.cons rfl (Sub.cons rfl (Sub.cons rfl (Sub.cons rfl (Sub.cons rfl (Sub.cons (congrArg (fun z => some (Value.int IntKind.i64 z)) (by omega)) Sub.nil)))))) (by rw [take_succ_of_get hq, lastL_snoc, if_neg (by assumption)])
      ·skip
       try simp only [hasB, isSizeB, Bool.not_eq_true', Bool.not_eq_false', bne_iff_ne, ne_eq, bne_eq_false_iff_eq, beq_iff_eq, beq_eq_false_iff_ne, decide_eq_true_eq, decide_eq_false_iff_not, gt_iff_lt, ge_iff_le] at h20
       have hti := take_until hs.1 hs.2 (by assumption)
       rw [hti]
       refine At.exitC ?_
       refine At.thenX ?_
       refine At.thenX ?_
       refine At.blkX ?_
       refine At.thenN ?_
       refine At.seq ?_
       refine tR ?_
       refine tA rfl rfl ?_
       refine tE ?_
       refine At.block ?_
       skip
       refine At.loop (σ := Nat) (fun j => j ≤ N) (fun j => [(1, v1), (7, .int .i64 (8 * (N : Int))), (12, v14), (13, v15), (14, v18), (16, .int .i64 (8 * (j : Int)))]) (fun j => [rowR v18 30 1 ((lastL N (L.take 400)).length) ((lastL N (L.take 400)).map b64), rowR v15 5 1 ((wbytes (viewWs σ1.ws)).length) ((wbytes (viewWs σ1.ws)).map bv), rowR v14 5 1 ((wbytes (picked σ1.ws (pkC σ1.ws cs))).length) ((wbytes (picked σ1.ws (pkC σ1.ws cs))).map bv), Dev p1 γ (σ1)]) (fun j => N - j) 0 (Nat.zero_le _) (Sub.cons rfl (Sub.cons rfl (Sub.cons rfl (Sub.cons rfl (Sub.cons rfl (Sub.cons rfl Sub.nil)))))) (List.Perm.refl _) ?_
       intro j hs
       refine At.seq ?_
       refine tR ?_
       refine tM rfl rfl ?_
       refine tM rfl rfl ?_
       refine At.val (Val.bin rfl rfl rfl) rfl rfl rfl ?_
       refine tE ?_
       refine At.cond rfl (fun h46 => ?_) (fun h46 => ?_)
       ·skip
        try simp only [hasB, isSizeB, Bool.not_eq_true', Bool.not_eq_false', bne_iff_ne, ne_eq, bne_eq_false_iff_eq, beq_iff_eq, beq_eq_false_iff_ne, decide_eq_true_eq, decide_eq_false_iff_not, gt_iff_lt, ge_iff_le] at h46
        have hj : j < N := by omega
        obtain ⟨wd, hwd⟩ : ∃ wd, σ1.ws[j]? = some wd := ⟨_, List.getElem?_eq_getElem (by omega)⟩
        obtain ⟨z, hz, hzz⟩ := picked_some (cs := cs) hwd
        obtain ⟨hi1, hi2, hi3, _⟩ := hinv.2 j wd hwd
        have hwv : wdA (wbytes (viewWs σ1.ws)) (8 * j) = nowW wd := wbytes_word (by rw [viewWs, List.getElem?_map, hwd]; rfl)
        have hwc := wbytes_word hz
        refine At.skipC ?_
        refine At.thenN ?_
        refine At.seq ?_
        refine At.block ?_
        refine tR ?_
        refine tM rfl rfl ?_
        refine tM rfl rfl ?_
        refine At.callP (fun w hw => at8_w _ _ _ w (row_rd (hw.row (i := 2) rfl) (by decide)) (by omega) (by omega)) Try.call24 rfl rfl ?_
        skip
        ·skip
         rw [hwc]
         refine tM rfl rfl ?_
         refine At.val (Val.extract rfl rfl) rfl rfl rfl ?_
         refine At.val (Val.extract rfl rfl) rfl rfl rfl ?_
         refine tA rfl rfl ?_
         refine tA rfl rfl ?_
         refine tE ?_
         refine tR ?_
         refine tM rfl rfl ?_
         refine tM rfl rfl ?_
         refine At.callP (fun w hw => at8_w _ _ _ w (row_rd (hw.row (i := 1) rfl) (by decide)) (by omega) (by omega)) Try.call24 rfl rfl ?_
         skip
         ·skip
          rw [hwv]
          refine tM rfl rfl ?_
          refine At.val (Val.extract rfl rfl) rfl rfl rfl ?_
          refine At.val (Val.extract rfl rfl) rfl rfl rfl ?_
          refine tA rfl rfl ?_
          refine tA rfl rfl ?_
          refine tE ?_
          refine At.seq ?_
          refine tR ?_
          refine tM rfl rfl ?_
          refine tM rfl rfl ?_
          refine tM rfl rfl ?_
          refine At.val (Val.quoI rfl rfl (by omega) (by omega) (by decide)) rfl rfl rfl ?_
          rw [show 8 * (j : Int) / 8 = (j : Int) from by omega]
          refine At.val (Val.indexRow (i := 0) j (by omega) Try.underlying36 Try.sizeOf30 rfl rfl rfl (by omega) (by rw [lastL_length]; omega)) rfl rfl rfl ?_
          refine At.val (Val.loadRow (i := 0) (u := b64 (nowW wd)) Try.isAgg30 rfl rfl (by rw [List.getElem?_map, hi1]; rfl)) rfl rfl rfl ?_
          refine At.val (Val.bin rfl rfl rfl) rfl rfl rfl ?_
          refine tE ?_
          refine At.cond rfl (fun h47 => ?_) (fun h47 => ?_)
          ·skip
           try simp only [hasB, isSizeB, Bool.not_eq_true', Bool.not_eq_false', bne_iff_ne, ne_eq, bne_eq_false_iff_eq, beq_iff_eq, beq_eq_false_iff_ne, decide_eq_true_eq, decide_eq_false_iff_not, gt_iff_lt, ge_iff_le] at h47
           simp at h47
          ·skip
           try simp only [hasB, isSizeB, Bool.not_eq_true', Bool.not_eq_false', bne_iff_ne, ne_eq, bne_eq_false_iff_eq, beq_iff_eq, beq_eq_false_iff_ne, decide_eq_true_eq, decide_eq_false_iff_not, gt_iff_lt, ge_iff_le] at h47
           refine At.skipC ?_
           refine At.thenN ?_
           refine tR ?_
           refine tM rfl rfl ?_
           refine At.val (Val.bin rfl rfl rfl) rfl rfl rfl ?_
           refine tM rfl rfl ?_
           refine At.split (t := 124) rfl (fun h48 => ?_) (fun h48 => ?_)
           ·skip
            try simp only [hasB, isSizeB, Bool.not_eq_true', Bool.not_eq_false', bne_iff_ne, ne_eq, bne_eq_false_iff_eq, beq_iff_eq, beq_eq_false_iff_ne, decide_eq_true_eq, decide_eq_false_iff_not, gt_iff_lt, ge_iff_le] at h48
            have h_nz : ¬ (z.toNat : Int) = 0 := h48
            refine At.yes rfl rfl ?_
            refine tM rfl rfl ?_
            refine At.yes rfl rfl ?_
            refine tM rfl rfl ?_
            refine At.yes rfl rfl ?_
            refine tM rfl rfl ?_
            refine At.yes rfl rfl ?_
            refine tM rfl rfl ?_
            refine At.yes rfl rfl ?_
            refine At.callP (fun w hw => stored_p _ _ j z N w (hv1.mod hw.mod) hN0 (by omega) hl1) Try.call25 rfl rfl ?_
            have hsto : storedB L j z N = true := storedB_T.2 (by rcases hzz with rfl | hm; exact hi2.resolve_left (fun e => by rw [e] at h_nz; exact h_nz rfl); exact hi3 z hm)
            rw [hsto]
            ·skip
             refine At.yes rfl rfl ?_
             refine At.val (Val.not rfl) rfl rfl rfl ?_
             refine At.val (Val.pickT rfl rfl) rfl rfl rfl ?_
             refine tE ?_
             refine At.condF rfl ?_
             refine At.skipC ?_
             refine At.blkN ?_
             refine At.thenN ?_
             refine At.region ?_
             refine tM rfl rfl ?_
             first | refine At.val (Val.addI rfl rfl (by omega) (by omega)) rfl rfl rfl ?_ | refine At.val (Val.bin rfl rfl rfl) rfl rfl rfl ?_
             refine tA rfl rfl ?_
             refine tE ?_
             exact At.again (j + 1) (show j + 1 ≤ N by omega) (by omega) (Sub.cons rfl (Sub.cons rfl (Sub.cons rfl (Sub.cons rfl (Sub.cons rfl (Sub.cons (congrArg (fun z => some (Value.int IntKind.i64 z)) (by omega)) Sub.nil)))))) (List.Perm.refl _)
           ·skip
            try simp only [hasB, isSizeB, Bool.not_eq_true', Bool.not_eq_false', bne_iff_ne, ne_eq, bne_eq_false_iff_eq, beq_iff_eq, beq_eq_false_iff_ne, decide_eq_true_eq, decide_eq_false_iff_not, gt_iff_lt, ge_iff_le] at h48
            refine At.no rfl rfl rfl rfl ?_
            refine At.no rfl rfl rfl rfl ?_
            refine At.no rfl rfl rfl rfl ?_
            refine At.no rfl rfl rfl rfl ?_
            refine At.no rfl rfl rfl rfl ?_
            refine At.no rfl rfl rfl rfl ?_
            refine At.val (Val.pickF rfl rfl) rfl rfl rfl ?_
            refine tE ?_
            refine At.condF rfl ?_
            refine At.skipC ?_
            refine At.blkN ?_
            refine At.thenN ?_
            refine At.region ?_
            refine tM rfl rfl ?_
            first | refine At.val (Val.addI rfl rfl (by omega) (by omega)) rfl rfl rfl ?_ | refine At.val (Val.bin rfl rfl rfl) rfl rfl rfl ?_
            refine tA rfl rfl ?_
            refine tE ?_
            exact At.again (j + 1) (show j + 1 ≤ N by omega) (by omega) (Sub.cons rfl (Sub.cons rfl (Sub.cons rfl (Sub.cons rfl (Sub.cons rfl (Sub.cons (congrArg (fun z => some (Value.int IntKind.i64 z)) (by omega)) Sub.nil)))))) (List.Perm.refl _)
       ·skip
        try simp only [hasB, isSizeB, Bool.not_eq_true', Bool.not_eq_false', bne_iff_ne, ne_eq, bne_eq_false_iff_eq, beq_iff_eq, beq_eq_false_iff_ne, decide_eq_true_eq, decide_eq_false_iff_not, gt_iff_lt, ge_iff_le] at h46
        refine At.exitC ?_
        refine At.thenX ?_
        refine At.thenX ?_
        refine At.blkX ?_
        refine At.thenN ?_
        refine tR ?_
        refine tA rfl rfl ?_
        refine tE ?_
        refine At.retC ?_
        refine At.ret1 (.inl rfl) rfl rfl rfl (fun w hw => ?_)
        exact ⟨rfl, hw.mod⟩

end Go.Proofs.Ytkpbpeajkfgfiaa
