/- Parts of the proof, joined: see the law's text. -/
import Derived.Test.YtpihenmdkoojdaaDoorYc3
import Derived.Test.YtpihenmdkoojdaaDoorYc2
set_option linter.unusedVariables false
set_option linter.unusedSimpArgs false
namespace Go.Proofs.YtpihenmdkoojdaaDoor
open Go Go.Wk
theorem cleanT_is {l : List UInt8} (h : sealW (BitVec.ofInt 64 128) ((wdA l 128).setWidth 32) = wdA l 128) : cleanT l = (wdA l 128).setWidth 32 := if_pos h
/-- Words that nobody doubts. -/
def mkC (vs : List (BitVec 64)) : List Wd := vs.map fun v => ⟨v, [], 0⟩
theorem mkC_length (vs : List (BitVec 64)) : (mkC vs).length = vs.length := List.length_map ..
theorem mkC_at {vs : List (BitVec 64)} {j : Nat} {v : BitVec 64} (h : vs[j]? = some v) : (mkC vs)[j]? = some ⟨v, [], 0⟩ := by unfold mkC; rw [List.getElem?_map, h]; rfl
theorem mkC_news (vs : List (BitVec 64)) : ∀ w ∈ mkC vs, w.news = [] := fun w hw => by
  obtain ⟨v, _, rfl⟩ := List.mem_map.1 hw; rfl
theorem mkC_view (vs : List (BitVec 64)) : viewWs (mkC vs) = vs := by
  unfold viewWs mkC; rw [List.map_map]
  conv => rhs; rw [← List.map_id vs]
  exact List.map_congr_left fun v _ => rfl
theorem mkC_of {ws : List Wd} (h : ∀ w ∈ ws, w.news = [] ∧ w.mark = 0) : ws = mkC (viewWs ws) := by
  unfold viewWs mkC; rw [List.map_map]
  conv => lhs; rw [← List.map_id ws]
  refine List.map_congr_left fun w hw => ?_
  obtain ⟨h1, h2⟩ := h w hw
  obtain ⟨o, n, m⟩ := w
  simp only at h1 h2
  subst h1 h2; rfl
theorem mkC_pick (vs : List (BitVec 64)) (pk : Nat → Nat → BitVec 64) : picked (mkC vs) pk = vs := by rw [picked_nil (mkC_news vs), mkC_view]
/-- Words laid over others from k on. -/
def putV (vs : List (BitVec 64)) (k : Nat) (xs : List (BitVec 64)) : List (BitVec 64) := (List.range vs.length).map fun j => if k ≤ j ∧ j < k + xs.length then xs.getD (j - k) 0 else vs.getD j 0
theorem putV_length (vs : List (BitVec 64)) (k : Nat) (xs : List (BitVec 64)) : (putV vs k xs).length = vs.length := by simp [putV]
theorem putV_at {vs : List (BitVec 64)} {k j : Nat} {xs : List (BitVec 64)} (h : j < vs.length) : (putV vs k xs)[j]? = some (if k ≤ j ∧ j < k + xs.length then xs.getD (j - k) 0 else vs.getD j 0) := by unfold putV; rw [List.getElem?_map, List.getElem?_range h]; rfl
theorem putV_in {vs : List (BitVec 64)} {k i : Nat} {xs : List (BitVec 64)} {x : BitVec 64} (h : xs[i]? = some x) (hk : k + xs.length ≤ vs.length) : (putV vs k xs)[k + i]? = some x := by
  have hi := (List.getElem?_eq_some_iff.1 h).1
  rw [putV_at (by omega), if_pos (by omega), show k + i - k = i by omega, List.getD_eq_getElem?_getD, h]; rfl
theorem putV_out {vs : List (BitVec 64)} {k j : Nat} {xs : List (BitVec 64)} (hj : ¬ (k ≤ j ∧ j < k + xs.length)) : (putV vs k xs)[j]? = vs[j]? := by
  rcases Nat.lt_or_ge j vs.length with h | h
  · rw [putV_at h, if_neg hj, List.getD_eq_getElem?_getD, List.getElem?_eq_getElem h]; rfl
  · rw [List.getElem?_eq_none (by rw [putV_length]; exact h), List.getElem?_eq_none h]
theorem stores_at : ∀ (xs : List (BitVec 64)) (k : Nat) (σ : Ds), σ.armed = false → k + xs.length ≤ σ.ws.length → ∀ (j : Nat) (w : Wd), σ.ws[j]? = some w → (actsE σ (stA k xs)).2.ws[j]? = some (if k ≤ j ∧ j < k + xs.length then pushW w (xs.getD (j - k) 0) else w)
  | [], k, σ, _, _, j, w, h => by rw [if_neg (by simp only [List.length_nil]; omega)]; exact h
  | x :: xs, k, σ, ha, hk, j, w, h => by
    rw [List.length_cons] at hk
    rw [stA, actsE_live (dead_of ha)]
    obtain ⟨wk, hwk⟩ : ∃ wk, σ.ws[k]? = some wk := ⟨_, List.getElem?_eq_getElem (by omega)⟩
    obtain ⟨r1, r2, r3⟩ := storeD_rest (σ := σ) x (show k < σ.ws.length by omega)
    have ih := stores_at xs (k + 1) (storeD σ k x) (r2.trans ha) (by omega) j
    show (actsE (storeD σ k x) (stA (k + 1) xs)).2.ws[j]? = _
    by_cases e : j = k
    · subst e
      obtain rfl := Option.some.inj (hwk.symm.trans h)
      rw [ih (pushW wk x) (by rw [storeD_some hwk]; exact setD_self (σ := stepD σ) hwk), if_neg (by omega), if_pos (by rw [List.length_cons]; omega), Nat.sub_self]; rfl
    · rw [ih w (by rw [storeD_some hwk]; exact setD_at (σ := stepD σ) h (Ne.symm e))]
      by_cases hc : k + 1 ≤ j ∧ j < k + 1 + xs.length
      · rw [if_pos hc, if_pos (by rw [List.length_cons]; omega)]
        obtain ⟨i, rfl⟩ : ∃ i, j = k + 1 + i := ⟨j - (k + 1), by omega⟩
        rw [show k + 1 + i - (k + 1) = i by omega, show k + 1 + i - k = i + 1 by omega]; rfl
      · rw [if_neg hc, if_neg (by rw [List.length_cons]; omega)]
/-- Stores, the flush of their lines, a fence: on a device that nobody doubts and that doesn't die. -/
theorem block_eff {σ : Ds} {vs : List (BitVec 64)} {k l c : Nat} {xs : List (BitVec 64)} (hws : σ.ws = mkC vs) (ha : σ.armed = false) (hk : k + xs.length ≤ vs.length) (h1 : 8 * l ≤ k) (h2 : k + xs.length ≤ 8 * (l + c)) (h3 : 8 * (l + c) < vs.length + 8) :
    (actsE σ (stA k xs ++ (flA l c ++ [.fe]))).1 = 0 ∧ (actsE σ (stA k xs ++ (flA l c ++ [.fe]))).2.ws = mkC (putV vs k xs) ∧ (actsE σ (stA k xs ++ (flA l c ++ [.fe]))).2.armed = false ∧ (actsE σ (stA k xs ++ (flA l c ++ [.fe]))).2.steps = σ.steps + xs.length + c + 1 := by
  have hl : σ.ws.length = vs.length := by rw [hws, mkC_length]
  have okA : ∀ a ∈ stA k xs ++ (flA l c ++ [Ac.fe]), AcOk σ.ws.length a := by
    intro a h
    rcases List.mem_append.1 h with h | h
    · exact stA_ok xs k (by omega) a h
    rcases List.mem_append.1 h with h | h
    · exact flA_ok c l (by omega) a h
    · rw [List.mem_singleton.1 h]; trivial
  obtain ⟨_, _, r3, r4⟩ := actsE_rest _ σ okA
  obtain ⟨r4, r5⟩ := r4 ha
  obtain ⟨s1, s2, s3, s4⟩ := actsE_rest (stA k xs) σ (stA_ok xs k (by omega))
  obtain ⟨s4, s5⟩ := s4 ha
  refine ⟨r4, ?_, r3.trans ha, ?_⟩
  · rw [actsE_go s4]
    have hs := stores_at xs k σ ha (by omega)
    generalize (actsE σ (stA k xs)).2 = τ at *
    have ht : τ.armed = false := s3.trans ha
    have e2 : (actsE τ (flA l c)) = (0, linesD l τ c) := by rw [← linesE_acts]; exact linesE_calm c l τ ht
    rw [actsE_go (by rw [e2]), e2]
    obtain ⟨q1, q2, q3⟩ := linesD_rest c l τ
    show (actsE (linesD l τ c) [.fe]).2.ws = _
    rw [actsE_live (dead_of (q2.trans ht))]
    show (fenceD (stepD (linesD l τ c))).ws = _
    apply List.ext_getElem?
    intro j
    rcases Nat.lt_or_ge j vs.length with hj | hj
    · have hv : vs[j]? = some (vs.getD j 0) := by rw [List.getD_eq_getElem?_getD, List.getElem?_eq_getElem hj]; rfl
      have h0 := hs j ⟨vs.getD j 0, [], 0⟩ (by rw [hws]; exact mkC_at hv)
      rw [mkC_at (putV_at hj)]
      by_cases hc : k ≤ j ∧ j < k + xs.length
      · rw [if_pos hc] at h0 ⊢
        obtain ⟨m, g1, g2, _⟩ := linesD_at c l τ h0
        have hm := g2 (by omega)
        rw [fenceD_at (σ := stepD (linesD l τ c)) g1]
        refine congrArg some ?_
        have hm1 : m = 1 := by rw [hm]; simp [pushW]
        subst hm1
        unfold fenceW pushW
        simp
      · rw [if_neg hc] at h0 ⊢
        obtain ⟨m, g1, g2, g3⟩ := linesD_at c l τ h0
        have hm : m = 0 := by
          by_cases hin : 8 * l ≤ j ∧ j < 8 * (l + c)
          · rw [g2 hin]; rfl
          · rw [g3 hin]
        subst hm
        rw [fenceD_at (σ := stepD (linesD l τ c)) g1]
        exact congrArg some (if_pos rfl)
    · rw [List.getElem?_eq_none, List.getElem?_eq_none (by rw [mkC_length, putV_length]; exact hj)]
      have : (fenceD (stepD (linesD l τ c))).ws.length = (linesD l τ c).ws.length := by simp [fenceD, stepD]
      omega
  · rw [r5, List.length_append, List.length_append, stA_len, flA_len, List.length_singleton]; omega
theorem cleanA_block (t : BitVec 32) : cleanA t = stA 16 [sealW (BitVec.ofInt 64 128) t] ++ (flA 2 1 ++ [.fe]) := rfl
theorem recA_block (b : List UInt8) : recA b = stA 128 (wordsL b (b.length / 8)) ++ (flA 16 (cntL 1024 b.length) ++ [.fe]) := rfl
def sealC (t : BitVec 32) : BitVec 64 := sealW (BitVec.ofInt 64 128) t
/-- What a Save leaves. -/
def savedV (vs : List (BitVec 64)) (t : BitVec 32) (L : List (Int × Int)) : List (BitVec 64) := putV (putV vs 128 (wordsL (svB t L) ((svB t L).length / 8))) 16 [sealC t]
theorem cntL_svB (t : BitVec 32) (L : List (Int × Int)) (h : L.length ≤ 249) : 128 + (svB t L).length / 8 ≤ 8 * (16 + cntL 1024 (svB t L).length) ∧ 8 * (16 + cntL 1024 (svB t L).length) < 264 := by
  have h1 := (svB_le (t := t) h).1
  have h2 := svB_length t L
  unfold cntL
  rw [if_neg (by omega)]
  omega
theorem nowAt_mkC {σ : Ds} {vs : List (BitVec 64)} (h : σ.ws = mkC vs) {j : Nat} {v : BitVec 64} (hv : vs[j]? = some v) : nowAt σ j = v := by
  rw [nowAt_some (w := ⟨v, [], 0⟩) (by rw [h]; exact mkC_at hv)]; rfl
theorem save_eff {σ : Ds} {vs : List (BitVec 64)} {L : List (Int × Int)} (hws : σ.ws = mkC vs) (ha : σ.armed = false) (hn : 256 ≤ vs.length) (hs : SpK L L.length) (hL : L.length ≤ 249) :
    (saveE σ L).1 = true ∧ (saveE σ L).2.1 = 0 ∧ (saveE σ L).2.2.ws = mkC (savedV vs (stampD σ) L) ∧ (saveE σ L).2.2.armed = false ∧ (vs[16]? = some 0 → (saveE σ L).2.2.steps = σ.steps + (svB (stampD σ) L).length / 8 + cntL 1024 (svB (stampD σ) L).length + 4) := by
  have hl : σ.ws.length = vs.length := by rw [hws, mkC_length]
  obtain ⟨hb, hb8⟩ := svB_le (t := stampD σ) hL
  obtain ⟨c1, c2⟩ := cntL_svB (stampD σ) L hL
  have hwl : (wordsL (svB (stampD σ) L) ((svB (stampD σ) L).length / 8)).length = (svB (stampD σ) L).length / 8 := wordsL_length ..
  obtain ⟨v16, h16⟩ : ∃ v, vs[16]? = some v := ⟨_, List.getElem?_eq_getElem (by omega)⟩
  have hn16 := nowAt_mkC hws h16
  have e : saveE σ L = (decide ((actsE σ (saveA σ L)).1 = 0), (actsE σ (saveA σ L)).1, (actsE σ (saveA σ L)).2) := by
    unfold saveE; rw [if_neg (Classical.not_not.2 hs), if_neg (by omega), if_neg (by omega)]
  rw [e]
  have key : ∀ (τ : Ds) (us : List (BitVec 64)), τ.ws = mkC us → τ.armed = false → us.length = vs.length → (actsE τ (recA (svB (stampD σ) L) ++ cleanA (stampD σ))).1 = 0 ∧ (actsE τ (recA (svB (stampD σ) L) ++ cleanA (stampD σ))).2.ws = mkC (savedV us (stampD σ) L) ∧ (actsE τ (recA (svB (stampD σ) L) ++ cleanA (stampD σ))).2.armed = false ∧ (actsE τ (recA (svB (stampD σ) L) ++ cleanA (stampD σ))).2.steps = τ.steps + (svB (stampD σ) L).length / 8 + cntL 1024 (svB (stampD σ) L).length + 4 := by
    intro τ us h1 h2 h3
    obtain ⟨a1, a2, a3, a4⟩ := block_eff (k := 128) (l := 16) (c := cntL 1024 (svB (stampD σ) L).length) (xs := wordsL (svB (stampD σ) L) ((svB (stampD σ) L).length / 8)) h1 h2 (by omega) (by omega) (by omega) (by omega)
    rw [← recA_block] at a1 a2 a3 a4
    rw [actsE_go a1]
    obtain ⟨b1, b2, b3, b4⟩ := block_eff (k := 16) (l := 2) (c := 1) (xs := [sealW (BitVec.ofInt 64 128) (stampD σ)]) a2 a3 (by rw [putV_length]; simp only [List.length_singleton]; omega) (by omega) (by simp only [List.length_singleton]; omega) (by rw [putV_length]; omega)
    rw [← cleanA_block] at b1 b2 b3 b4
    exact ⟨b1, b2, b3, by (rw [b4, a4, hwl, List.length_singleton]) <;> omega⟩
  by_cases h0 : v16 = 0
  · have hA : saveA σ L = recA (svB (stampD σ) L) ++ cleanA (stampD σ) := by unfold saveA saveF; rw [hn16, if_pos h0]; rfl
    rw [hA]
    obtain ⟨k1, k2, k3, k4⟩ := key σ vs hws ha rfl
    exact ⟨decide_eq_true k1, k1, k2, k3, fun _ => k4⟩
  · have hA : saveA σ L = cleanA 0 ++ (recA (svB (stampD σ) L) ++ cleanA (stampD σ)) := by unfold saveA saveF; rw [hn16, if_neg h0]
    rw [hA]
    obtain ⟨b1, b2, b3, _⟩ := block_eff (k := 16) (l := 2) (c := 1) (xs := [sealW (BitVec.ofInt 64 128) 0]) hws ha (by simp only [List.length_singleton]; omega) (by omega) (by simp only [List.length_singleton]; omega) (by omega)
    rw [← cleanA_block] at b1 b2 b3
    rw [actsE_go b1]
    obtain ⟨k1, k2, k3, _⟩ := key _ _ b2 b3 (putV_length ..)
    refine ⟨decide_eq_true k1, k1, k2.trans (congrArg mkC ?_), k3, fun h => by rw [h16] at h; exact absurd (Option.some.inj h) h0⟩
    unfold savedV
    apply List.ext_getElem?
    intro j
    by_cases hj : 16 ≤ j ∧ j < 16 + 1
    · obtain rfl : j = 16 := by omega
      rw [show (16 : Nat) = 16 + 0 from rfl, putV_in (i := 0) rfl (by rw [putV_length, putV_length]; simp only [List.length_singleton]; omega), putV_in (i := 0) rfl (by rw [putV_length]; simp only [List.length_singleton]; omega)]
    · rw [putV_out (k := 16) (xs := [sealC (stampD σ)]) hj, putV_out (k := 16) (xs := [sealC (stampD σ)]) hj]
      by_cases hk : 128 ≤ j ∧ j < 128 + (wordsL (svB (stampD σ) L) ((svB (stampD σ) L).length / 8)).length
      · obtain ⟨i, rfl⟩ : ∃ i, j = 128 + i := ⟨j - 128, by omega⟩
        obtain ⟨x, hx⟩ : ∃ x, (wordsL (svB (stampD σ) L) ((svB (stampD σ) L).length / 8))[i]? = some x := ⟨_, List.getElem?_eq_getElem (by omega)⟩
        rw [putV_in hx (by rw [putV_length]; omega), putV_in hx (by omega)]
      · rw [putV_out hk, putV_out hk, putV_out (k := 16) (xs := [sealW (BitVec.ofInt 64 128) 0]) hj]
/-! ### what an image says -/
theorem word_bytes {vs : List (BitVec 64)} {b : List UInt8} {K j r : Nat} (h : vs[K]? = some (wdA b (8 * j))) (hb : 8 * j + 8 ≤ b.length) (hr : r < 8) : (wbytes vs)[8 * K + r]? = b[8 * j + r]? := by
  have h1 := wbytes_take h
  have h2 : le8 (wdA b (8 * j)) = (b.drop (8 * j)).take 8 := by
    have h3 := le_fromLe ((b.drop (8 * j)).take 8)
    rw [show ((b.drop (8 * j)).take 8).length = 8 from by rw [List.length_take, List.length_drop]; omega] at h3
    show le 8 (wdA b (8 * j)).toNat = _
    rw [wdA_nat]; exact h3
  rw [h2] at h1
  have h4 := congrArg (fun l : List UInt8 => l[r]?) h1
  simp only [List.getElem?_take, List.getElem?_drop] at h4
  rw [if_pos hr, if_pos hr] at h4
  exact h4
def HasRec (vs : List (BitVec 64)) (t : BitVec 32) (L : List (Int × Int)) : Prop := ∀ j, j < (svB t L).length / 8 → vs[128 + j]? = some (wdA (svB t L) (8 * j))
theorem rec_area {l : List UInt8} {vs : List (BitVec 64)} {t : BitVec 32} {L : List (Int × Int)} (h : HasRec vs t L) (hl : ∀ i, 1024 ≤ i → i < 1024 + 24 + 4 * L.length → l[i]? = (wbytes vs)[i]?) (hn : 2048 ≤ l.length) (hg : GoodSv t L) : OkSv (area l) ∧ oT (area l) = t ∧ oL (area l) = L ∧ oE (area l) = 0 := by
  have hb := svB_length t L
  have h249 := hg.2.1
  obtain ⟨g1, g2, g3, _⟩ := rec_ok (l := area l) hg (by rw [area_length hn]; omega) (fun i hi => by
    unfold area
    rw [List.getElem?_take, if_pos (by omega), List.getElem?_drop, hl (1024 + i) (by omega) (by omega)]
    have := word_bytes (r := i % 8) (h (i / 8) (by omega)) (by omega) (by omega)
    rw [show 8 * (128 + i / 8) + i % 8 = 1024 + i by omega, show 8 * (i / 8) + i % 8 = i by omega] at this
    exact this)
  exact ⟨g1, by rw [oT_yes g1]; exact g2, by rw [oL_yes g1]; exact g3, oE_yes g1⟩
theorem seal_low {a : BitVec 64} {t : BitVec 32} : (sealW a t).setWidth 32 = t := by
  by_cases h : t = 0
  · rw [seal_zero h, h]; rfl
  · apply BitVec.eq_of_toNat_eq
    rw [BitVec.toNat_setWidth, seal_nat h]
    have := t.isLt
    omega
theorem cleanT_seal {l : List UInt8} {t : BitVec 32} (h : wdA l 128 = sealC t) : cleanT l = t := by
  have e : (wdA l 128).setWidth 32 = t := by rw [h]; exact seal_low
  rw [cleanT_is (by rw [e]; exact h.symm), e]
theorem cleanT_img {vs : List (BitVec 64)} {t : BitVec 32} (h : vs[16]? = some (sealC t)) : cleanT (wbytes vs) = t := cleanT_seal (wbytes_word h)
theorem sealC_0 : sealC 0 = 0 := seal_zero rfl
/-- What Restore says of an image that was saved. -/
theorem rest_img {vs : List (BitVec 64)} {t : BitVec 32} {L M : List (Int × Int)} {p i c : Int} (hg : GoodSup p i c) (hl : (8 * vs.length : Nat) = 512 * p) (h16 : vs[16]? = some (sealC t)) (ht : t ≠ 0) (hr : HasRec vs t L) (hs : GoodSv t L) : restE (wbytes vs) p i c (4 + i / 8) M = if L = M then 0 else 132 := by
  have hg2 := hg
  unfold GoodSup at hg2
  obtain ⟨o1, o2, o3, o4⟩ := rec_area (l := wbytes vs) hr (fun _ _ _ => rfl) (by rw [wbytes_length]; omega) hs
  unfold restE
  rw [if_neg (Classical.not_not.2 ⟨hg, rfl, by rw [wbytes_length]; omega⟩), cleanT_img h16, if_neg ht, if_neg (by rw [o4]; simp), if_neg (by rw [o2]; simp), o3]
  by_cases e : L = M
  · rw [if_neg (fun h => h e), if_pos e]
  · rw [if_pos e, if_neg e]
theorem rest_none {vs : List (BitVec 64)} {M : List (Int × Int)} {p i c : Int} (hg : GoodSup p i c) (hl : (8 * vs.length : Nat) = 512 * p) (h16 : vs[16]? = some 0) : restE (wbytes vs) p i c (4 + i / 8) M = 130 := by
  unfold restE
  rw [if_neg (Classical.not_not.2 ⟨hg, rfl, by rw [wbytes_length]; omega⟩), cleanT_img (t := 0) (by rw [sealC_0]; exact h16), if_pos rfl]
end Go.Proofs.YtpihenmdkoojdaaDoor
set_option linter.unusedVariables false
set_option linter.unusedSimpArgs false
namespace Go.Proofs.YtpihenmdkoojdaaDoor
open Go Go.Wk
theorem bld_45_0_2 (p i c d : Int) (A : Option Addr) (n k : Nat) (w : World) : (Instr.build 45 #[(0, .agg #[.int .i64 p, .int .i64 i, .int .i64 c, .int .i64 d]), (2, .slice A n k)]).run Tryd.prog w = .ok (.agg #[.int .i64 p, .int .i64 i, .int .i64 c, .int .i64 d, .slice none 0 0, .slice A n k]) w := by kernel_rfl
theorem At.callYN {P : Program} {Γ : Ctx} {E : Env} {H : List Res} {ops : Array Oper} {Q : Exit → Act → World → Prop} {rest : List Oper} {d : Nat} {ty : TypeId} {pos : String} {after : Array Edge} {β : Type} {r' : β → Res} {v : β → Value} {I : β → Prop} {f : FuncId} {l : List Operand} {vs : List Value} {at_ : Array TypeId}
    (h : ∀ w, Rep Γ.w0 Γ.S H w → Calls P f vs.toArray w fun e w' => ∃ y : β, e = .returned (v y) ∧ I y ∧ Rep w (feet []) [r' y] w') (hc : ∀ args w, (callFunc f args).run P w = .ok (.enter f args) w) (hv : evs E l = some vs) (hn : Nat.blt d Γ.n = true)
    (c : ∀ y, I y → At Γ ((d, v y) :: E) (r' y :: H) (wpList P ops Q rest)) :
    At Γ E H (wpList P ops Q ({ dst := some d, op := .call { callee := .value (.func f), args := l.toArray, argTypes := at_ }, type := ty, pos, after, guard := none } :: rest)) :=
  At.call hc hv hn fun w hw => (h w hw).mono fun e w' ⟨y, he, hI, hr⟩ => ⟨v y, _, he, Rep.frame (H0 := []) (H0' := [r' y]) hw hr, c y hI⟩
noncomputable def shV (pg ino co : Int) : Int × Int × Int × Int := if GoodSup pg ino co then (pg, ino, co, 4 + ino / 8) else (24, 8, 1, 5)
theorem shV_yes {pg ino co : Int} (h : GoodSup pg ino co) : shV pg ino co = (pg, ino, co, 4 + ino / 8) := if_pos h
theorem shV_no {pg ino co : Int} (h : ¬ GoodSup pg ino co) : shV pg ino co = (24, 8, 1, 5) := if_neg h
theorem shV_ok (pg ino co : Int) : GoodSup (shV pg ino co).1 (shV pg ino co).2.1 (shV pg ino co).2.2.1 ∧ (shV pg ino co).2.2.2 = 4 + (shV pg ino co).2.1 / 8 := by
  by_cases h : GoodSup pg ino co
  · rw [shV_yes h]; exact ⟨h, rfl⟩
  · rw [shV_no h]; exact ⟨by unfold GoodSup; decide, by decide⟩
def SpOk (L : List (Int × Int)) : Prop := SpK L L.length ∧ L.length ≤ 249
/-- The last span's end. -/
def endS (L : List (Int × Int)) : Int := match L.getLast? with | some c => c.1 + c.2 | none => 4
theorem endS_lo (L : List (Int × Int)) : loAt L L.length = endS L + 1 := by
  unfold loAt endS
  rw [List.take_length]
  cases L.getLast? with
  | none => rfl
  | some c => rfl
theorem endS_snoc (L : List (Int × Int)) (c : Int × Int) : endS (L ++ [c]) = c.1 + c.2 := by unfold endS; simp
theorem spK_app {L : List (Int × Int)} {c : Int × Int} (h : SpK L L.length) (hc : OkSp (endS L + 1) c) : SpK (L ++ [c]) (L ++ [c]).length := by
  have h1 : SpK (L ++ [c]) L.length := fun j d hj hd => by
    rw [List.getElem?_append_left hj] at hd
    have := h j d hj hd
    rwa [show loAt (L ++ [c]) j = loAt L j from by unfold loAt; rw [List.take_append_of_le_length (by omega)]]
  rw [List.length_append, List.length_singleton]
  refine spK_succ h1 (by rw [List.getElem?_append_right (Nat.le_refl _), Nat.sub_self]; rfl) ?_
  rwa [show loAt (L ++ [c]) L.length = loAt L L.length from by unfold loAt; rw [List.take_append_of_le_length (Nat.le_refl _)], endS_lo]
theorem last_split {L : List (Int × Int)} {q : Int × Int} {n : Nat} (hn : L.length = n + 1) (h : L[n]? = some q) : L = L.take n ++ [q] := by
  have := List.take_succ_of_get h
  rw [← hn, List.take_length] at this
  exact this
/-- One more page in the last span. -/
def growS (L : List (Int × Int)) : List (Int × Int) := match L.getLast? with | some c => L.dropLast ++ [(c.1, c.2 + 1)] | none => [(20, 1)]
theorem prS_snoc' (M : List (Int × Int)) (q : Int × Int) (x : Int) : (prS (M ++ [q])).set (M.length * 2 + 1) (.int .i64 x) = prS (M ++ [(q.1, x)]) := by
  rw [prS_append, prS_append]
  rw [List.set_append_right _ _ (by rw [prS_length]; omega), prS_length, show M.length * 2 + 1 - M.length * 2 = 1 by omega]; rfl
theorem shape_p (pg ino co lf : Int) (vM vW vL : Value) (w : World) :
    PureC Tryd.prog 9 [.agg #[.int .i64 pg, .int .i64 ino, .int .i64 co, vM, vW, .int .i64 lf, vL]] (.agg #[.int .i64 (shV pg ino co).1, .int .i64 (shV pg ino co).2.1, .int .i64 (shV pg ino co).2.2.1, .int .i64 (shV pg ino co).2.2.2]) w := by
 refine enter0 Tryd.func9 rfl Tryd.ntmps9 rfl ?_
 simp only [envOf]
 refine tR ?_
 refine At.box rfl rfl rfl (fun b1 => ?_)
 refine At.alloc Tryd.zeroValue28 rfl rfl (fun b2 => ?_)
 refine tE ?_
 refine tR ?_
 refine At.val (Val.field 0 rfl fo_26_0 rfl) rfl rfl rfl ?_
 refine At.val (Val.load (i := 1) Tryd.isAgg3 rfl rfl rfl) rfl rfl rfl ?_
 by_cases hR : 24 ≤ pg ∧ pg ≤ 1024 ∧ 8 ≤ ino ∧ ino ≤ 256 ∧ ino % 8 = 0 ∧ 1 ≤ co ∧ co ≤ 8
 ·skip
  refine At.val (Val.field 1 rfl fo_26_1 rfl) rfl rfl rfl ?_
  refine At.val (Val.load (i := 1) Tryd.isAgg3 rfl rfl rfl) rfl rfl rfl ?_
  refine At.val (Val.field 2 rfl fo_26_2 rfl) rfl rfl rfl ?_
  refine At.val (Val.load (i := 1) Tryd.isAgg3 rfl rfl rfl) rfl rfl rfl ?_
  refine At.val (Val.field 1 rfl fo_26_1 rfl) rfl rfl rfl ?_
  refine At.val (Val.load (i := 1) Tryd.isAgg3 rfl rfl rfl) rfl rfl rfl ?_
  first | refine At.val (Val.quoI rfl rfl (by omega) (by omega) (by decide)) rfl rfl rfl ?_ | refine At.val (Val.quo rfl rfl (by decide)) rfl rfl rfl ?_
  first | refine At.val (Val.addI rfl rfl (by omega) (by omega)) rfl rfl rfl ?_ | refine At.val (Val.bin rfl rfl rfl) rfl rfl rfl ?_
  refine At.val (Val.build (fun a ha => by simp only [List.map_toArray, List.map_cons, List.map_nil, ha.eval (x := (.tmp 6)) rfl, ha.eval (x := (.tmp 8)) rfl, ha.eval (x := (.tmp 10)) rfl, ha.eval (x := (.tmp 14)) rfl] <;> rfl) (bld_28_0_1_2_3 _ _ _ _ )) rfl rfl rfl ?_
  refine At.alloc Tryd.zeroValue28 rfl rfl (fun b3 => ?_)
  refine At.storeAll (i := 0) Tryd.sizeOf28 rfl rfl rfl (by simp [Value.oneCell']) rfl rfl ?_
  simp only [sc0, scS]
  refine tE ?_
  refine tR ?_
  refine At.val (Val.field 0 rfl fo_26_0 rfl) rfl rfl rfl ?_
  refine At.val (Val.load (i := 2) Tryd.isAgg3 rfl rfl rfl) rfl rfl rfl ?_
  refine At.val (Val.bin rfl rfl rfl) rfl rfl rfl ?_
  refine At.weaken [(0, _), (1, _), (2, _), (5, _), (6, _), (7, _), (8, _), (9, _), (10, _), (11, _), (12, _), (13, _), (14, _), (15, _), (3, _), (18, _)] (Sub.cons rfl (Sub.cons rfl (Sub.cons rfl (Sub.cons rfl (Sub.cons rfl (Sub.cons rfl (Sub.cons rfl (Sub.cons rfl (Sub.cons rfl (Sub.cons rfl (Sub.cons rfl (Sub.cons rfl (Sub.cons rfl (Sub.cons rfl (Sub.cons rfl (Sub.cons rfl Sub.nil)))))))))))))))) ?_
  refine At.boolMeet 31 49 (true) ?_ ?_
  ·skip
   simp only [List.take_succ_cons, List.take_zero]
   refine tM rfl rfl ?_
   refine At.split (t := 19) rfl (fun h4 => ?_) (fun h4 => ?_)
   ·skip
    try simp only [hasB, isSizeB, Bool.not_eq_true', Bool.not_eq_false', bne_iff_ne, ne_eq, bne_eq_false_iff_eq, beq_iff_eq, beq_eq_false_iff_ne, decide_eq_true_eq, decide_eq_false_iff_not, gt_iff_lt, ge_iff_le] at h4
    refine At.yes rfl rfl ?_
    refine At.val (Val.field 0 rfl fo_26_0 rfl) rfl rfl rfl ?_
    refine At.yes rfl rfl ?_
    refine At.val (Val.load (i := 2) Tryd.isAgg3 rfl rfl rfl) rfl rfl rfl ?_
    refine At.yes rfl rfl ?_
    refine At.val (Val.bin rfl rfl rfl) rfl rfl rfl ?_
    refine At.val (Val.pickT rfl rfl) rfl rfl rfl ?_
    refine tM rfl rfl ?_
    refine At.split (t := 24) rfl (fun h5 => ?_) (fun h5 => ?_)
    ·skip
     try simp only [hasB, isSizeB, Bool.not_eq_true', Bool.not_eq_false', bne_iff_ne, ne_eq, bne_eq_false_iff_eq, beq_iff_eq, beq_eq_false_iff_ne, decide_eq_true_eq, decide_eq_false_iff_not, gt_iff_lt, ge_iff_le] at h5
     refine At.yes rfl rfl ?_
     refine At.val (Val.field 1 rfl fo_26_1 rfl) rfl rfl rfl ?_
     refine At.yes rfl rfl ?_
     refine At.val (Val.load (i := 2) Tryd.isAgg3 rfl rfl rfl) rfl rfl rfl ?_
     refine At.yes rfl rfl ?_
     refine At.val (Val.bin rfl rfl rfl) rfl rfl rfl ?_
     refine At.val (Val.pickT rfl rfl) rfl rfl rfl ?_
     refine tM rfl rfl ?_
     refine At.split (t := 29) rfl (fun h6 => ?_) (fun h6 => ?_)
     ·skip
      try simp only [hasB, isSizeB, Bool.not_eq_true', Bool.not_eq_false', bne_iff_ne, ne_eq, bne_eq_false_iff_eq, beq_iff_eq, beq_eq_false_iff_ne, decide_eq_true_eq, decide_eq_false_iff_not, gt_iff_lt, ge_iff_le] at h6
      refine At.yes rfl rfl ?_
      refine At.val (Val.field 1 rfl fo_26_1 rfl) rfl rfl rfl ?_
      refine At.yes rfl rfl ?_
      refine At.val (Val.load (i := 2) Tryd.isAgg3 rfl rfl rfl) rfl rfl rfl ?_
      refine At.yes rfl rfl ?_
      refine At.val (Val.bin rfl rfl rfl) rfl rfl rfl ?_
      refine At.val (Val.pickT rfl rfl) rfl rfl rfl ?_
      refine tM rfl rfl ?_
      refine At.split (t := 34) rfl (fun h7 => ?_) (fun h7 => ?_)
      ·skip
       try simp only [hasB, isSizeB, Bool.not_eq_true', Bool.not_eq_false', bne_iff_ne, ne_eq, bne_eq_false_iff_eq, beq_iff_eq, beq_eq_false_iff_ne, decide_eq_true_eq, decide_eq_false_iff_not, gt_iff_lt, ge_iff_le] at h7
       refine At.yes rfl rfl ?_
       refine At.val (Val.field 1 rfl fo_26_1 rfl) rfl rfl rfl ?_
       refine At.yes rfl rfl ?_
       refine At.val (Val.load (i := 2) Tryd.isAgg3 rfl rfl rfl) rfl rfl rfl ?_
       refine At.yes rfl rfl ?_
       first | refine At.val (Val.remI rfl rfl (by omega) (by decide)) rfl rfl rfl ?_ | refine At.val (Val.rem rfl rfl (by decide)) rfl rfl rfl ?_
       refine At.yes rfl rfl ?_
       refine At.val (Val.bin rfl rfl rfl) rfl rfl rfl ?_
       refine At.val (Val.pickT rfl rfl) rfl rfl rfl ?_
       refine tM rfl rfl ?_
       refine At.split (t := 40) rfl (fun h8 => ?_) (fun h8 => ?_)
       ·skip
        try simp only [hasB, isSizeB, Bool.not_eq_true', Bool.not_eq_false', bne_iff_ne, ne_eq, bne_eq_false_iff_eq, beq_iff_eq, beq_eq_false_iff_ne, decide_eq_true_eq, decide_eq_false_iff_not, gt_iff_lt, ge_iff_le] at h8
        refine At.yes rfl rfl ?_
        refine At.val (Val.field 2 rfl fo_26_2 rfl) rfl rfl rfl ?_
        refine At.yes rfl rfl ?_
        refine At.val (Val.load (i := 2) Tryd.isAgg3 rfl rfl rfl) rfl rfl rfl ?_
        refine At.yes rfl rfl ?_
        refine At.val (Val.bin rfl rfl rfl) rfl rfl rfl ?_
        refine At.val (Val.pickT rfl rfl) rfl rfl rfl ?_
        refine tM rfl rfl ?_
        refine At.split (t := 45) rfl (fun h9 => ?_) (fun h9 => ?_)
        ·skip
         try simp only [hasB, isSizeB, Bool.not_eq_true', Bool.not_eq_false', bne_iff_ne, ne_eq, bne_eq_false_iff_eq, beq_iff_eq, beq_eq_false_iff_ne, decide_eq_true_eq, decide_eq_false_iff_not, gt_iff_lt, ge_iff_le] at h9
         refine At.yes rfl rfl ?_
         refine At.val (Val.field 2 rfl fo_26_2 rfl) rfl rfl rfl ?_
         refine At.yes rfl rfl ?_
         refine At.val (Val.load (i := 2) Tryd.isAgg3 rfl rfl rfl) rfl rfl rfl ?_
         refine At.yes rfl rfl ?_
         refine At.val (Val.bin rfl rfl rfl) rfl rfl rfl ?_
         refine At.val (Val.pickT rfl rfl) rfl rfl rfl ?_
         refine At.nil ?_
         exact At.boolEnd rfl (by apply Bool.eq_iff_iff.2; (simp only [decide_eq_true_eq, Bool.false_eq_true, false_iff, true_iff, iff_true, iff_false, gt_iff_lt, ge_iff_le, beq_iff_eq]) <;> omega) (by repeat (first | exact Sub.nil | refine Sub.cons rfl ?_))
        ·skip
         try simp only [hasB, isSizeB, Bool.not_eq_true', Bool.not_eq_false', bne_iff_ne, ne_eq, bne_eq_false_iff_eq, beq_iff_eq, beq_eq_false_iff_ne, decide_eq_true_eq, decide_eq_false_iff_not, gt_iff_lt, ge_iff_le] at h9
         refine At.no rfl rfl rfl rfl ?_
         refine At.no rfl rfl rfl rfl ?_
         refine At.no rfl rfl rfl rfl ?_
         refine At.val (Val.pickF rfl rfl) rfl rfl rfl ?_
         refine At.nil ?_
         exact At.boolEnd rfl (by apply Bool.eq_iff_iff.2; (simp only [decide_eq_true_eq, Bool.false_eq_true, false_iff, true_iff, iff_true, iff_false, gt_iff_lt, ge_iff_le, beq_iff_eq]) <;> omega) (by repeat (first | exact Sub.nil | refine Sub.cons rfl ?_))
       ·skip
        try simp only [hasB, isSizeB, Bool.not_eq_true', Bool.not_eq_false', bne_iff_ne, ne_eq, bne_eq_false_iff_eq, beq_iff_eq, beq_eq_false_iff_ne, decide_eq_true_eq, decide_eq_false_iff_not, gt_iff_lt, ge_iff_le] at h8
        refine At.no rfl rfl rfl rfl ?_
        refine At.no rfl rfl rfl rfl ?_
        refine At.no rfl rfl rfl rfl ?_
        refine At.val (Val.pickF rfl rfl) rfl rfl rfl ?_
        refine tM rfl rfl ?_
        refine At.no rfl rfl rfl rfl ?_
        refine At.no rfl rfl rfl rfl ?_
        refine At.no rfl rfl rfl rfl ?_
        refine At.val (Val.pickF rfl rfl) rfl rfl rfl ?_
        refine At.nil ?_
        exact At.boolEnd rfl (by apply Bool.eq_iff_iff.2; (simp only [decide_eq_true_eq, Bool.false_eq_true, false_iff, true_iff, iff_true, iff_false, gt_iff_lt, ge_iff_le, beq_iff_eq]) <;> omega) (by repeat (first | exact Sub.nil | refine Sub.cons rfl ?_))
      ·skip
       try simp only [hasB, isSizeB, Bool.not_eq_true', Bool.not_eq_false', bne_iff_ne, ne_eq, bne_eq_false_iff_eq, beq_iff_eq, beq_eq_false_iff_ne, decide_eq_true_eq, decide_eq_false_iff_not, gt_iff_lt, ge_iff_le] at h7
       refine At.no rfl rfl rfl rfl ?_
       refine At.no rfl rfl rfl rfl ?_
       refine At.no rfl rfl rfl rfl ?_
       refine At.no rfl rfl rfl rfl ?_
       refine At.val (Val.pickF rfl rfl) rfl rfl rfl ?_
       refine tM rfl rfl ?_
       refine At.no rfl rfl rfl rfl ?_
       refine At.no rfl rfl rfl rfl ?_
       refine At.no rfl rfl rfl rfl ?_
       refine At.val (Val.pickF rfl rfl) rfl rfl rfl ?_
       refine tM rfl rfl ?_
       refine At.no rfl rfl rfl rfl ?_
       refine At.no rfl rfl rfl rfl ?_
       refine At.no rfl rfl rfl rfl ?_
       refine At.val (Val.pickF rfl rfl) rfl rfl rfl ?_
       refine At.nil ?_
       exact At.boolEnd rfl (by apply Bool.eq_iff_iff.2; (simp only [decide_eq_true_eq, Bool.false_eq_true, false_iff, true_iff, iff_true, iff_false, gt_iff_lt, ge_iff_le, beq_iff_eq]) <;> omega) (by repeat (first | exact Sub.nil | refine Sub.cons rfl ?_))
     ·skip
      try simp only [hasB, isSizeB, Bool.not_eq_true', Bool.not_eq_false', bne_iff_ne, ne_eq, bne_eq_false_iff_eq, beq_iff_eq, beq_eq_false_iff_ne, decide_eq_true_eq, decide_eq_false_iff_not, gt_iff_lt, ge_iff_le] at h6
      refine At.no rfl rfl rfl rfl ?_
      refine At.no rfl rfl rfl rfl ?_
      refine At.no rfl rfl rfl rfl ?_
      refine At.val (Val.pickF rfl rfl) rfl rfl rfl ?_
      refine tM rfl rfl ?_
      refine At.no rfl rfl rfl rfl ?_
      refine At.no rfl rfl rfl rfl ?_
      refine At.no rfl rfl rfl rfl ?_
      refine At.no rfl rfl rfl rfl ?_
      refine At.val (Val.pickF rfl rfl) rfl rfl rfl ?_
      refine tM rfl rfl ?_
      refine At.no rfl rfl rfl rfl ?_
      refine At.no rfl rfl rfl rfl ?_
      refine At.no rfl rfl rfl rfl ?_
      refine At.val (Val.pickF rfl rfl) rfl rfl rfl ?_
      refine tM rfl rfl ?_
      refine At.no rfl rfl rfl rfl ?_
      refine At.no rfl rfl rfl rfl ?_
      refine At.no rfl rfl rfl rfl ?_
      refine At.val (Val.pickF rfl rfl) rfl rfl rfl ?_
      refine At.nil ?_
      exact At.boolEnd rfl (by apply Bool.eq_iff_iff.2; (simp only [decide_eq_true_eq, Bool.false_eq_true, false_iff, true_iff, iff_true, iff_false, gt_iff_lt, ge_iff_le, beq_iff_eq]) <;> omega) (by repeat (first | exact Sub.nil | refine Sub.cons rfl ?_))
    ·skip
     try simp only [hasB, isSizeB, Bool.not_eq_true', Bool.not_eq_false', bne_iff_ne, ne_eq, bne_eq_false_iff_eq, beq_iff_eq, beq_eq_false_iff_ne, decide_eq_true_eq, decide_eq_false_iff_not, gt_iff_lt, ge_iff_le] at h5
     refine At.no rfl rfl rfl rfl ?_
     refine At.no rfl rfl rfl rfl ?_
     refine At.no rfl rfl rfl rfl ?_
     refine At.val (Val.pickF rfl rfl) rfl rfl rfl ?_
     refine tM rfl rfl ?_
     refine At.no rfl rfl rfl rfl ?_
     refine At.no rfl rfl rfl rfl ?_
     refine At.no rfl rfl rfl rfl ?_
     refine At.val (Val.pickF rfl rfl) rfl rfl rfl ?_
     refine tM rfl rfl ?_
     refine At.no rfl rfl rfl rfl ?_
     refine At.no rfl rfl rfl rfl ?_
     refine At.no rfl rfl rfl rfl ?_
     refine At.no rfl rfl rfl rfl ?_
     refine At.val (Val.pickF rfl rfl) rfl rfl rfl ?_
     refine tM rfl rfl ?_
     refine At.no rfl rfl rfl rfl ?_
     refine At.no rfl rfl rfl rfl ?_
     refine At.no rfl rfl rfl rfl ?_
     refine At.val (Val.pickF rfl rfl) rfl rfl rfl ?_
     refine tM rfl rfl ?_
     refine At.no rfl rfl rfl rfl ?_
     refine At.no rfl rfl rfl rfl ?_
     refine At.no rfl rfl rfl rfl ?_
     refine At.val (Val.pickF rfl rfl) rfl rfl rfl ?_
     refine At.nil ?_
     exact At.boolEnd rfl (by apply Bool.eq_iff_iff.2; (simp only [decide_eq_true_eq, Bool.false_eq_true, false_iff, true_iff, iff_true, iff_false, gt_iff_lt, ge_iff_le, beq_iff_eq]) <;> omega) (by repeat (first | exact Sub.nil | refine Sub.cons rfl ?_))
   ·skip
    try simp only [hasB, isSizeB, Bool.not_eq_true', Bool.not_eq_false', bne_iff_ne, ne_eq, bne_eq_false_iff_eq, beq_iff_eq, beq_eq_false_iff_ne, decide_eq_true_eq, decide_eq_false_iff_not, gt_iff_lt, ge_iff_le] at h4
    refine At.no rfl rfl rfl rfl ?_
    refine At.no rfl rfl rfl rfl ?_
    refine At.no rfl rfl rfl rfl ?_
    refine At.val (Val.pickF rfl rfl) rfl rfl rfl ?_
    refine tM rfl rfl ?_
    refine At.no rfl rfl rfl rfl ?_
    refine At.no rfl rfl rfl rfl ?_
    refine At.no rfl rfl rfl rfl ?_
    refine At.val (Val.pickF rfl rfl) rfl rfl rfl ?_
    refine tM rfl rfl ?_
    refine At.no rfl rfl rfl rfl ?_
    refine At.no rfl rfl rfl rfl ?_
    refine At.no rfl rfl rfl rfl ?_
    refine At.val (Val.pickF rfl rfl) rfl rfl rfl ?_
    refine tM rfl rfl ?_
    refine At.no rfl rfl rfl rfl ?_
    refine At.no rfl rfl rfl rfl ?_
    refine At.no rfl rfl rfl rfl ?_
    refine At.no rfl rfl rfl rfl ?_
    refine At.val (Val.pickF rfl rfl) rfl rfl rfl ?_
    refine tM rfl rfl ?_
    refine At.no rfl rfl rfl rfl ?_
    refine At.no rfl rfl rfl rfl ?_
    refine At.no rfl rfl rfl rfl ?_
    refine At.val (Val.pickF rfl rfl) rfl rfl rfl ?_
    refine tM rfl rfl ?_
    refine At.no rfl rfl rfl rfl ?_
    refine At.no rfl rfl rfl rfl ?_
    refine At.no rfl rfl rfl rfl ?_
    refine At.val (Val.pickF rfl rfl) rfl rfl rfl ?_
    refine At.nil ?_
    exact At.boolEnd rfl (by apply Bool.eq_iff_iff.2; (simp only [decide_eq_true_eq, Bool.false_eq_true, false_iff, true_iff, iff_true, iff_false, gt_iff_lt, ge_iff_le, beq_iff_eq]) <;> omega) (by repeat (first | exact Sub.nil | refine Sub.cons rfl ?_))
  ·skip
   simp only [List.drop_succ_cons, List.drop_zero]
   refine tA rfl rfl ?_
   refine tE ?_
   refine At.seq ?_
   refine tR ?_
   refine tM rfl rfl ?_
   refine At.val (Val.not rfl) rfl rfl rfl ?_
   refine tM rfl rfl ?_
   refine At.split (t := 52) rfl (fun h10 => ?_) (fun h10 => ?_)
   ·skip
    try simp only [hasB, isSizeB, Bool.not_eq_true', Bool.not_eq_false', bne_iff_ne, ne_eq, bne_eq_false_iff_eq, beq_iff_eq, beq_eq_false_iff_ne, decide_eq_true_eq, decide_eq_false_iff_not, gt_iff_lt, ge_iff_le] at h10
    first | (cases h10; done) | simp at h10
   ·skip
    try simp only [hasB, isSizeB, Bool.not_eq_true', Bool.not_eq_false', bne_iff_ne, ne_eq, bne_eq_false_iff_eq, beq_iff_eq, beq_eq_false_iff_ne, decide_eq_true_eq, decide_eq_false_iff_not, gt_iff_lt, ge_iff_le] at h10
    refine At.yes rfl rfl ?_
    refine At.val (Val.field 0 rfl fo_28_0 rfl) rfl rfl rfl ?_
    refine At.yes rfl rfl ?_
    refine At.val (Val.load (i := 0) Tryd.isAgg3 rfl rfl rfl) rfl rfl rfl ?_
    refine At.yes rfl rfl ?_
    refine At.val (Val.field 3 rfl fo_28_3 rfl) rfl rfl rfl ?_
    refine At.yes rfl rfl ?_
    refine At.val (Val.load (i := 0) Tryd.isAgg3 rfl rfl rfl) rfl rfl rfl ?_
    refine At.yes rfl rfl ?_
    first | refine At.val (Val.subI rfl rfl (by omega) (by omega)) rfl rfl rfl ?_ | refine At.val (Val.bin rfl rfl rfl) rfl rfl rfl ?_
    refine At.yes rfl rfl ?_
    refine At.val (Val.bin rfl rfl rfl) rfl rfl rfl ?_
    refine At.val (Val.pickF rfl rfl) rfl rfl rfl ?_
    refine tE ?_
    refine At.cond rfl (fun h11 => ?_) (fun h11 => ?_)
    ·skip
     try simp only [hasB, isSizeB, Bool.not_eq_true', Bool.not_eq_false', bne_iff_ne, ne_eq, bne_eq_false_iff_eq, beq_iff_eq, beq_eq_false_iff_ne, decide_eq_true_eq, decide_eq_false_iff_not, gt_iff_lt, ge_iff_le] at h11
     refine tR ?_
     refine At.val (Val.build (fun a ha => by simp only [List.map_toArray, List.map_cons, List.map_nil, ha.eval (x := (.const (.int .i64 (24)))) rfl, ha.eval (x := (.const (.int .i64 (8)))) rfl, ha.eval (x := (.const (.int .i64 (1)))) rfl, ha.eval (x := (.const (.int .i64 (5)))) rfl] <;> rfl) (bld_28_0_1_2_3 _ _ _ _ )) rfl rfl rfl ?_
     refine At.storeAll (i := 1) Tryd.sizeOf28 rfl rfl rfl (by simp [Value.oneCell']) rfl rfl ?_
     simp only [sc0, scS]
     refine tE ?_
     refine At.retC ?_
     refine At.thenR ?_
     refine At.ret1 (.inl rfl) rfl rfl (ResOf.all (i := 1) Tryd.isAgg28 Tryd.sizeOf28 rfl rfl rfl) (fun w hw => ?_)
     exact ⟨by rw [shV_no (fun hg => by unfold GoodSup at hg; omega)], hw.mod⟩
    ·skip
     try simp only [hasB, isSizeB, Bool.not_eq_true', Bool.not_eq_false', bne_iff_ne, ne_eq, bne_eq_false_iff_eq, beq_iff_eq, beq_eq_false_iff_ne, decide_eq_true_eq, decide_eq_false_iff_not, gt_iff_lt, ge_iff_le] at h11
     refine At.skipC ?_
     refine At.thenN ?_
     refine tR ?_
     refine At.val (Val.loadAll (i := 0) Tryd.isAgg28 Tryd.sizeOf28 rfl rfl rfl) rfl rfl rfl ?_
     refine At.storeAll (i := 1) Tryd.sizeOf28 rfl rfl rfl (by simp [Value.oneCell']) rfl rfl ?_
     simp only [sc0, scS]
     refine tE ?_
     refine At.retC ?_
     refine At.ret1 (.inl rfl) rfl rfl (ResOf.all (i := 1) Tryd.isAgg28 Tryd.sizeOf28 rfl rfl rfl) (fun w hw => ?_)
     exact ⟨by rw [shV_yes (by unfold GoodSup; omega)], hw.mod⟩
 ·skip
  refine At.val (Val.field 1 rfl fo_26_1 rfl) rfl rfl rfl ?_
  refine At.val (Val.load (i := 1) Tryd.isAgg3 rfl rfl rfl) rfl rfl rfl ?_
  refine At.val (Val.field 2 rfl fo_26_2 rfl) rfl rfl rfl ?_
  refine At.val (Val.load (i := 1) Tryd.isAgg3 rfl rfl rfl) rfl rfl rfl ?_
  refine At.val (Val.field 1 rfl fo_26_1 rfl) rfl rfl rfl ?_
  refine At.val (Val.load (i := 1) Tryd.isAgg3 rfl rfl rfl) rfl rfl rfl ?_
  first | refine At.val (Val.quoI rfl rfl (by omega) (by omega) (by decide)) rfl rfl rfl ?_ | refine At.val (Val.quo rfl rfl (by decide)) rfl rfl rfl ?_
  first | refine At.val (Val.addI rfl rfl (by omega) (by omega)) rfl rfl rfl ?_ | refine At.val (Val.bin rfl rfl rfl) rfl rfl rfl ?_
  refine At.val (Val.build (fun a ha => by simp only [List.map_toArray, List.map_cons, List.map_nil, ha.eval (x := (.tmp 6)) rfl, ha.eval (x := (.tmp 8)) rfl, ha.eval (x := (.tmp 10)) rfl, ha.eval (x := (.tmp 14)) rfl] <;> rfl) (bld_28_0_1_2_3 _ _ _ _ )) rfl rfl rfl ?_
  refine At.alloc Tryd.zeroValue28 rfl rfl (fun b12 => ?_)
  refine At.storeAll (i := 0) Tryd.sizeOf28 rfl rfl rfl (by simp [Value.oneCell']) rfl rfl ?_
  simp only [sc0, scS]
  refine tE ?_
  refine tR ?_
  refine At.val (Val.field 0 rfl fo_26_0 rfl) rfl rfl rfl ?_
  refine At.val (Val.load (i := 2) Tryd.isAgg3 rfl rfl rfl) rfl rfl rfl ?_
  refine At.val (Val.bin rfl rfl rfl) rfl rfl rfl ?_
  refine At.weaken [(0, _), (1, _), (2, _), (5, _), (6, _), (7, _), (8, _), (9, _), (10, _), (11, _), (12, _), (13, _), (14, _), (15, _), (3, _), (18, _)] (Sub.cons rfl (Sub.cons rfl (Sub.cons rfl (Sub.cons rfl (Sub.cons rfl (Sub.cons rfl (Sub.cons rfl (Sub.cons rfl (Sub.cons rfl (Sub.cons rfl (Sub.cons rfl (Sub.cons rfl (Sub.cons rfl (Sub.cons rfl (Sub.cons rfl (Sub.cons rfl Sub.nil)))))))))))))))) ?_
  refine At.boolMeet 31 49 (false) ?_ ?_
  ·skip
   simp only [List.take_succ_cons, List.take_zero]
   refine tM rfl rfl ?_
   refine At.split (t := 19) rfl (fun h13 => ?_) (fun h13 => ?_)
   ·skip
    try simp only [hasB, isSizeB, Bool.not_eq_true', Bool.not_eq_false', bne_iff_ne, ne_eq, bne_eq_false_iff_eq, beq_iff_eq, beq_eq_false_iff_ne, decide_eq_true_eq, decide_eq_false_iff_not, gt_iff_lt, ge_iff_le] at h13
    refine At.yes rfl rfl ?_
    refine At.val (Val.field 0 rfl fo_26_0 rfl) rfl rfl rfl ?_
    refine At.yes rfl rfl ?_
    refine At.val (Val.load (i := 2) Tryd.isAgg3 rfl rfl rfl) rfl rfl rfl ?_
    refine At.yes rfl rfl ?_
    refine At.val (Val.bin rfl rfl rfl) rfl rfl rfl ?_
    refine At.val (Val.pickT rfl rfl) rfl rfl rfl ?_
    refine tM rfl rfl ?_
    refine At.split (t := 24) rfl (fun h14 => ?_) (fun h14 => ?_)
    ·skip
     try simp only [hasB, isSizeB, Bool.not_eq_true', Bool.not_eq_false', bne_iff_ne, ne_eq, bne_eq_false_iff_eq, beq_iff_eq, beq_eq_false_iff_ne, decide_eq_true_eq, decide_eq_false_iff_not, gt_iff_lt, ge_iff_le] at h14
     refine At.yes rfl rfl ?_
     refine At.val (Val.field 1 rfl fo_26_1 rfl) rfl rfl rfl ?_
     refine At.yes rfl rfl ?_
     refine At.val (Val.load (i := 2) Tryd.isAgg3 rfl rfl rfl) rfl rfl rfl ?_
     refine At.yes rfl rfl ?_
     refine At.val (Val.bin rfl rfl rfl) rfl rfl rfl ?_
     refine At.val (Val.pickT rfl rfl) rfl rfl rfl ?_
     refine tM rfl rfl ?_
     refine At.split (t := 29) rfl (fun h15 => ?_) (fun h15 => ?_)
     ·skip
      try simp only [hasB, isSizeB, Bool.not_eq_true', Bool.not_eq_false', bne_iff_ne, ne_eq, bne_eq_false_iff_eq, beq_iff_eq, beq_eq_false_iff_ne, decide_eq_true_eq, decide_eq_false_iff_not, gt_iff_lt, ge_iff_le] at h15
      refine At.yes rfl rfl ?_
      refine At.val (Val.field 1 rfl fo_26_1 rfl) rfl rfl rfl ?_
      refine At.yes rfl rfl ?_
      refine At.val (Val.load (i := 2) Tryd.isAgg3 rfl rfl rfl) rfl rfl rfl ?_
      refine At.yes rfl rfl ?_
      refine At.val (Val.bin rfl rfl rfl) rfl rfl rfl ?_
      refine At.val (Val.pickT rfl rfl) rfl rfl rfl ?_
      refine tM rfl rfl ?_
      refine At.split (t := 34) rfl (fun h16 => ?_) (fun h16 => ?_)
      ·skip
       try simp only [hasB, isSizeB, Bool.not_eq_true', Bool.not_eq_false', bne_iff_ne, ne_eq, bne_eq_false_iff_eq, beq_iff_eq, beq_eq_false_iff_ne, decide_eq_true_eq, decide_eq_false_iff_not, gt_iff_lt, ge_iff_le] at h16
       refine At.yes rfl rfl ?_
       refine At.val (Val.field 1 rfl fo_26_1 rfl) rfl rfl rfl ?_
       refine At.yes rfl rfl ?_
       refine At.val (Val.load (i := 2) Tryd.isAgg3 rfl rfl rfl) rfl rfl rfl ?_
       refine At.yes rfl rfl ?_
       first | refine At.val (Val.remI rfl rfl (by omega) (by decide)) rfl rfl rfl ?_ | refine At.val (Val.rem rfl rfl (by decide)) rfl rfl rfl ?_
       refine At.yes rfl rfl ?_
       refine At.val (Val.bin rfl rfl rfl) rfl rfl rfl ?_
       refine At.val (Val.pickT rfl rfl) rfl rfl rfl ?_
       refine tM rfl rfl ?_
       refine At.split (t := 40) rfl (fun h17 => ?_) (fun h17 => ?_)
       ·skip
        try simp only [hasB, isSizeB, Bool.not_eq_true', Bool.not_eq_false', bne_iff_ne, ne_eq, bne_eq_false_iff_eq, beq_iff_eq, beq_eq_false_iff_ne, decide_eq_true_eq, decide_eq_false_iff_not, gt_iff_lt, ge_iff_le] at h17
        refine At.yes rfl rfl ?_
        refine At.val (Val.field 2 rfl fo_26_2 rfl) rfl rfl rfl ?_
        refine At.yes rfl rfl ?_
        refine At.val (Val.load (i := 2) Tryd.isAgg3 rfl rfl rfl) rfl rfl rfl ?_
        refine At.yes rfl rfl ?_
        refine At.val (Val.bin rfl rfl rfl) rfl rfl rfl ?_
        refine At.val (Val.pickT rfl rfl) rfl rfl rfl ?_
        refine tM rfl rfl ?_
        refine At.split (t := 45) rfl (fun h18 => ?_) (fun h18 => ?_)
        ·skip
         try simp only [hasB, isSizeB, Bool.not_eq_true', Bool.not_eq_false', bne_iff_ne, ne_eq, bne_eq_false_iff_eq, beq_iff_eq, beq_eq_false_iff_ne, decide_eq_true_eq, decide_eq_false_iff_not, gt_iff_lt, ge_iff_le] at h18
         refine At.yes rfl rfl ?_
         refine At.val (Val.field 2 rfl fo_26_2 rfl) rfl rfl rfl ?_
         refine At.yes rfl rfl ?_
         refine At.val (Val.load (i := 2) Tryd.isAgg3 rfl rfl rfl) rfl rfl rfl ?_
         refine At.yes rfl rfl ?_
         refine At.val (Val.bin rfl rfl rfl) rfl rfl rfl ?_
         refine At.val (Val.pickT rfl rfl) rfl rfl rfl ?_
         refine At.nil ?_
         exact At.boolEnd rfl (by apply Bool.eq_iff_iff.2; (simp only [decide_eq_true_eq, Bool.false_eq_true, false_iff, true_iff, iff_true, iff_false, gt_iff_lt, ge_iff_le, beq_iff_eq]) <;> omega) (by repeat (first | exact Sub.nil | refine Sub.cons rfl ?_))
        ·skip
         try simp only [hasB, isSizeB, Bool.not_eq_true', Bool.not_eq_false', bne_iff_ne, ne_eq, bne_eq_false_iff_eq, beq_iff_eq, beq_eq_false_iff_ne, decide_eq_true_eq, decide_eq_false_iff_not, gt_iff_lt, ge_iff_le] at h18
         refine At.no rfl rfl rfl rfl ?_
         refine At.no rfl rfl rfl rfl ?_
         refine At.no rfl rfl rfl rfl ?_
         refine At.val (Val.pickF rfl rfl) rfl rfl rfl ?_
         refine At.nil ?_
         exact At.boolEnd rfl (by apply Bool.eq_iff_iff.2; (simp only [decide_eq_true_eq, Bool.false_eq_true, false_iff, true_iff, iff_true, iff_false, gt_iff_lt, ge_iff_le, beq_iff_eq]) <;> omega) (by repeat (first | exact Sub.nil | refine Sub.cons rfl ?_))
       ·skip
        try simp only [hasB, isSizeB, Bool.not_eq_true', Bool.not_eq_false', bne_iff_ne, ne_eq, bne_eq_false_iff_eq, beq_iff_eq, beq_eq_false_iff_ne, decide_eq_true_eq, decide_eq_false_iff_not, gt_iff_lt, ge_iff_le] at h17
        refine At.no rfl rfl rfl rfl ?_
        refine At.no rfl rfl rfl rfl ?_
        refine At.no rfl rfl rfl rfl ?_
        refine At.val (Val.pickF rfl rfl) rfl rfl rfl ?_
        refine tM rfl rfl ?_
        refine At.no rfl rfl rfl rfl ?_
        refine At.no rfl rfl rfl rfl ?_
        refine At.no rfl rfl rfl rfl ?_
        refine At.val (Val.pickF rfl rfl) rfl rfl rfl ?_
        refine At.nil ?_
        exact At.boolEnd rfl (by apply Bool.eq_iff_iff.2; (simp only [decide_eq_true_eq, Bool.false_eq_true, false_iff, true_iff, iff_true, iff_false, gt_iff_lt, ge_iff_le, beq_iff_eq]) <;> omega) (by repeat (first | exact Sub.nil | refine Sub.cons rfl ?_))
      ·skip
       try simp only [hasB, isSizeB, Bool.not_eq_true', Bool.not_eq_false', bne_iff_ne, ne_eq, bne_eq_false_iff_eq, beq_iff_eq, beq_eq_false_iff_ne, decide_eq_true_eq, decide_eq_false_iff_not, gt_iff_lt, ge_iff_le] at h16
       refine At.no rfl rfl rfl rfl ?_
       refine At.no rfl rfl rfl rfl ?_
       refine At.no rfl rfl rfl rfl ?_
       refine At.no rfl rfl rfl rfl ?_
       refine At.val (Val.pickF rfl rfl) rfl rfl rfl ?_
       refine tM rfl rfl ?_
       refine At.no rfl rfl rfl rfl ?_
       refine At.no rfl rfl rfl rfl ?_
       refine At.no rfl rfl rfl rfl ?_
       refine At.val (Val.pickF rfl rfl) rfl rfl rfl ?_
       refine tM rfl rfl ?_
       refine At.no rfl rfl rfl rfl ?_
       refine At.no rfl rfl rfl rfl ?_
       refine At.no rfl rfl rfl rfl ?_
       refine At.val (Val.pickF rfl rfl) rfl rfl rfl ?_
       refine At.nil ?_
       exact At.boolEnd rfl (by apply Bool.eq_iff_iff.2; (simp only [decide_eq_true_eq, Bool.false_eq_true, false_iff, true_iff, iff_true, iff_false, gt_iff_lt, ge_iff_le, beq_iff_eq]) <;> omega) (by repeat (first | exact Sub.nil | refine Sub.cons rfl ?_))
     ·skip
      try simp only [hasB, isSizeB, Bool.not_eq_true', Bool.not_eq_false', bne_iff_ne, ne_eq, bne_eq_false_iff_eq, beq_iff_eq, beq_eq_false_iff_ne, decide_eq_true_eq, decide_eq_false_iff_not, gt_iff_lt, ge_iff_le] at h15
      refine At.no rfl rfl rfl rfl ?_
      refine At.no rfl rfl rfl rfl ?_
      refine At.no rfl rfl rfl rfl ?_
      refine At.val (Val.pickF rfl rfl) rfl rfl rfl ?_
      refine tM rfl rfl ?_
      refine At.no rfl rfl rfl rfl ?_
      refine At.no rfl rfl rfl rfl ?_
      refine At.no rfl rfl rfl rfl ?_
      refine At.no rfl rfl rfl rfl ?_
      refine At.val (Val.pickF rfl rfl) rfl rfl rfl ?_
      refine tM rfl rfl ?_
      refine At.no rfl rfl rfl rfl ?_
      refine At.no rfl rfl rfl rfl ?_
      refine At.no rfl rfl rfl rfl ?_
      refine At.val (Val.pickF rfl rfl) rfl rfl rfl ?_
      refine tM rfl rfl ?_
      refine At.no rfl rfl rfl rfl ?_
      refine At.no rfl rfl rfl rfl ?_
      refine At.no rfl rfl rfl rfl ?_
      refine At.val (Val.pickF rfl rfl) rfl rfl rfl ?_
      refine At.nil ?_
      exact At.boolEnd rfl (by apply Bool.eq_iff_iff.2; (simp only [decide_eq_true_eq, Bool.false_eq_true, false_iff, true_iff, iff_true, iff_false, gt_iff_lt, ge_iff_le, beq_iff_eq]) <;> omega) (by repeat (first | exact Sub.nil | refine Sub.cons rfl ?_))
    ·skip
     try simp only [hasB, isSizeB, Bool.not_eq_true', Bool.not_eq_false', bne_iff_ne, ne_eq, bne_eq_false_iff_eq, beq_iff_eq, beq_eq_false_iff_ne, decide_eq_true_eq, decide_eq_false_iff_not, gt_iff_lt, ge_iff_le] at h14
     refine At.no rfl rfl rfl rfl ?_
     refine At.no rfl rfl rfl rfl ?_
     refine At.no rfl rfl rfl rfl ?_
     refine At.val (Val.pickF rfl rfl) rfl rfl rfl ?_
     refine tM rfl rfl ?_
     refine At.no rfl rfl rfl rfl ?_
     refine At.no rfl rfl rfl rfl ?_
     refine At.no rfl rfl rfl rfl ?_
     refine At.val (Val.pickF rfl rfl) rfl rfl rfl ?_
     refine tM rfl rfl ?_
     refine At.no rfl rfl rfl rfl ?_
     refine At.no rfl rfl rfl rfl ?_
     refine At.no rfl rfl rfl rfl ?_
     refine At.no rfl rfl rfl rfl ?_
     refine At.val (Val.pickF rfl rfl) rfl rfl rfl ?_
     refine tM rfl rfl ?_
     refine At.no rfl rfl rfl rfl ?_
     refine At.no rfl rfl rfl rfl ?_
     refine At.no rfl rfl rfl rfl ?_
     refine At.val (Val.pickF rfl rfl) rfl rfl rfl ?_
     refine tM rfl rfl ?_
     refine At.no rfl rfl rfl rfl ?_
     refine At.no rfl rfl rfl rfl ?_
     refine At.no rfl rfl rfl rfl ?_
     refine At.val (Val.pickF rfl rfl) rfl rfl rfl ?_
     refine At.nil ?_
     exact At.boolEnd rfl (by apply Bool.eq_iff_iff.2; (simp only [decide_eq_true_eq, Bool.false_eq_true, false_iff, true_iff, iff_true, iff_false, gt_iff_lt, ge_iff_le, beq_iff_eq]) <;> omega) (by repeat (first | exact Sub.nil | refine Sub.cons rfl ?_))
   ·skip
    try simp only [hasB, isSizeB, Bool.not_eq_true', Bool.not_eq_false', bne_iff_ne, ne_eq, bne_eq_false_iff_eq, beq_iff_eq, beq_eq_false_iff_ne, decide_eq_true_eq, decide_eq_false_iff_not, gt_iff_lt, ge_iff_le] at h13
    refine At.no rfl rfl rfl rfl ?_
    refine At.no rfl rfl rfl rfl ?_
    refine At.no rfl rfl rfl rfl ?_
    refine At.val (Val.pickF rfl rfl) rfl rfl rfl ?_
    refine tM rfl rfl ?_
    refine At.no rfl rfl rfl rfl ?_
    refine At.no rfl rfl rfl rfl ?_
    refine At.no rfl rfl rfl rfl ?_
    refine At.val (Val.pickF rfl rfl) rfl rfl rfl ?_
    refine tM rfl rfl ?_
    refine At.no rfl rfl rfl rfl ?_
    refine At.no rfl rfl rfl rfl ?_
    refine At.no rfl rfl rfl rfl ?_
    refine At.val (Val.pickF rfl rfl) rfl rfl rfl ?_
    refine tM rfl rfl ?_
    refine At.no rfl rfl rfl rfl ?_
    refine At.no rfl rfl rfl rfl ?_
    refine At.no rfl rfl rfl rfl ?_
    refine At.no rfl rfl rfl rfl ?_
    refine At.val (Val.pickF rfl rfl) rfl rfl rfl ?_
    refine tM rfl rfl ?_
    refine At.no rfl rfl rfl rfl ?_
    refine At.no rfl rfl rfl rfl ?_
    refine At.no rfl rfl rfl rfl ?_
    refine At.val (Val.pickF rfl rfl) rfl rfl rfl ?_
    refine tM rfl rfl ?_
    refine At.no rfl rfl rfl rfl ?_
    refine At.no rfl rfl rfl rfl ?_
    refine At.no rfl rfl rfl rfl ?_
    refine At.val (Val.pickF rfl rfl) rfl rfl rfl ?_
    refine At.nil ?_
    exact At.boolEnd rfl (by apply Bool.eq_iff_iff.2; (simp only [decide_eq_true_eq, Bool.false_eq_true, false_iff, true_iff, iff_true, iff_false, gt_iff_lt, ge_iff_le, beq_iff_eq]) <;> omega) (by repeat (first | exact Sub.nil | refine Sub.cons rfl ?_))
  ·skip
   simp only [List.drop_succ_cons, List.drop_zero]
   refine tA rfl rfl ?_
   refine tE ?_
   refine At.seq ?_
   refine tR ?_
   refine tM rfl rfl ?_
   refine At.val (Val.not rfl) rfl rfl rfl ?_
   refine tM rfl rfl ?_
   refine At.split (t := 52) rfl (fun h19 => ?_) (fun h19 => ?_)
   ·skip
    try simp only [hasB, isSizeB, Bool.not_eq_true', Bool.not_eq_false', bne_iff_ne, ne_eq, bne_eq_false_iff_eq, beq_iff_eq, beq_eq_false_iff_ne, decide_eq_true_eq, decide_eq_false_iff_not, gt_iff_lt, ge_iff_le] at h19
    refine At.no rfl rfl rfl rfl ?_
    refine At.no rfl rfl rfl rfl ?_
    refine At.no rfl rfl rfl rfl ?_
    refine At.no rfl rfl rfl rfl ?_
    refine At.no rfl rfl rfl rfl ?_
    refine At.no rfl rfl rfl rfl ?_
    refine At.val (Val.pickT rfl rfl) rfl rfl rfl ?_
    refine tE ?_
    refine At.condT rfl ?_
    refine tR ?_
    refine At.val (Val.build (fun a ha => by simp only [List.map_toArray, List.map_cons, List.map_nil, ha.eval (x := (.const (.int .i64 (24)))) rfl, ha.eval (x := (.const (.int .i64 (8)))) rfl, ha.eval (x := (.const (.int .i64 (1)))) rfl, ha.eval (x := (.const (.int .i64 (5)))) rfl] <;> rfl) (bld_28_0_1_2_3 _ _ _ _ )) rfl rfl rfl ?_
    refine At.storeAll (i := 1) Tryd.sizeOf28 rfl rfl rfl (by simp [Value.oneCell']) rfl rfl ?_
    simp only [sc0, scS]
    refine tE ?_
    refine At.retC ?_
    refine At.thenR ?_
    refine At.ret1 (.inl rfl) rfl rfl (ResOf.all (i := 1) Tryd.isAgg28 Tryd.sizeOf28 rfl rfl rfl) (fun w hw => ?_)
    exact ⟨by rw [shV_no (fun hg => hR (by unfold GoodSup at hg; omega))], hw.mod⟩
   ·skip
    try simp only [hasB, isSizeB, Bool.not_eq_true', Bool.not_eq_false', bne_iff_ne, ne_eq, bne_eq_false_iff_eq, beq_iff_eq, beq_eq_false_iff_ne, decide_eq_true_eq, decide_eq_false_iff_not, gt_iff_lt, ge_iff_le] at h19
    first | (cases h19; done) | simp at h19
theorem spans_n (pg ino co lf : Int) (vM vW vL : Value) (MS : List Bool) (w : World) (hvM : Rd w vM 1 MS.length (MS.map Value.bool)) (hmM : MS.length ≤ 140737488355328)  :
    Calls Tryd.prog 10 (List.toArray [.agg #[.int .i64 pg, .int .i64 ino, .int .i64 co, vM, vW, .int .i64 lf, vL]]) w fun e w' => ∃ y : Value × List (Int × Int), e = .returned y.1 ∧ SpOk y.2 ∧ Rep w (feet []) [srow 51 y.1 y.2] w' := by
 refine enter (feet []) [] Tryd.func10 rfl Tryd.ntmps10 rfl ⟨by simp, by simp, by simp, Mod.refl _ _⟩ ?_
 obtain ⟨S, hS⟩ : ∃ S, S = shV pg ino co := ⟨_, rfl⟩
 have hS' := shV_ok pg ino co
 rw [← hS] at hS'
 obtain ⟨P, I', C', D'⟩ := S
 dsimp only at hS'
 obtain ⟨hg, rfl⟩ := hS'
 have hg2 := hg
 unfold GoodSup at hg2
 simp only [envOf]
 refine tR ?_
 refine At.box rfl rfl rfl (fun b1 => ?_)
 refine tA rfl rfl ?_
 refine tE ?_
 refine tR ?_
 refine At.val (Val.loadAll (i := 0) Tryd.isAgg26 Tryd.sizeOf26 rfl rfl rfl) rfl rfl rfl ?_
 refine At.callP (fun w hw => (by have h0 := shape_p pg ino co lf vM vW vL w; rw [← hS] at h0; exact h0)) Tryd.call9 rfl rfl ?_
 refine At.alloc Tryd.zeroValue28 rfl rfl (fun b2 => ?_)
 refine At.storeAll (i := 0) Tryd.sizeOf28 rfl rfl rfl (by simp [Value.oneCell']) rfl rfl ?_
 simp only [sc0, scS]
 refine tE ?_
 refine tR ?_
 refine tA rfl rfl ?_
 refine At.nil ?_
 refine At.rowNilS 51 ?_
 refine At.thenN ?_
 refine At.seq ?_
 refine tR ?_
 refine tA rfl rfl ?_
 refine tE ?_
 refine At.block ?_
 skip
 refine At.loop (σ := Nat × Value × List (Int × Int)) (fun s => s.1 ≤ MS.length ∧ SpOk s.2.2 ∧ endS s.2.2 ≤ 4 + I' / 8 + s.1 ∧ (s.1 = 0 ∨ 4 + I' / 8 + (s.1 : Int) ≤ P)) (fun s => [(1, .pointer (some ⟨b1, 0, none⟩)), (3, .pointer (some ⟨b2, 0, none⟩)), (4, s.2.1), (5, .int .i64 (s.1 : Int))]) (fun s => [srow 51 s.2.1 s.2.2, blk b2 28 ([.int .i64 P, .int .i64 I', .int .i64 C', .int .i64 (4 + I' / 8)]), blk b1 26 ([.int .i64 pg, .int .i64 ino, .int .i64 co, vM, vW, .int .i64 lf, vL])]) (fun s => MS.length - s.1) (0, .slice none 0 0, []) ⟨Nat.zero_le _, ⟨spK_0 _, by decide⟩, by show (4 : Int) ≤ _; omega, .inl rfl⟩ (Sub.cons rfl (Sub.cons rfl (Sub.cons rfl (Sub.cons rfl Sub.nil)))) (List.Perm.refl _) ?_
 intro s hs
 obtain ⟨k, vk, L⟩ := s
 dsimp only at hs ⊢
 obtain ⟨hk, ⟨hsp, hle⟩, hen, hkp⟩ := hs
 refine At.seq ?_
 refine tR ?_
 refine tM rfl rfl ?_
 refine At.val (Val.field 3 rfl fo_26_3 rfl) rfl rfl rfl ?_
 refine At.val (Val.load (i := 2) Tryd.isAgg22 rfl rfl rfl) rfl rfl rfl ?_
 refine At.val (Val.lenRd hvM Tryd.underlying22 rfl) rfl rfl rfl ?_
 refine At.val (Val.bin rfl rfl rfl) rfl rfl rfl ?_
 refine At.weaken [(1, _), (3, _), (4, _), (5, _), (13, _)] (Sub.cons rfl (Sub.cons rfl (Sub.cons rfl (Sub.cons rfl (Sub.cons rfl Sub.nil))))) ?_
 refine At.boolMeet 9 22 (decide (k < MS.length ∧ 4 + I' / 8 + (k : Int) < P)) ?_ ?_
 ·skip
  simp only [List.take_succ_cons, List.take_zero]
  refine tM rfl rfl ?_
  refine At.split (t := 14) rfl (fun h3 => ?_) (fun h3 => ?_)
  ·skip
   try simp only [hasB, isSizeB, Bool.not_eq_true', Bool.not_eq_false', bne_iff_ne, ne_eq, bne_eq_false_iff_eq, beq_iff_eq, beq_eq_false_iff_ne, decide_eq_true_eq, decide_eq_false_iff_not, gt_iff_lt, ge_iff_le] at h3
   refine At.yes rfl rfl ?_
   refine At.val (Val.field 3 rfl fo_28_3 rfl) rfl rfl rfl ?_
   refine At.yes rfl rfl ?_
   refine At.val (Val.load (i := 1) Tryd.isAgg3 rfl rfl rfl) rfl rfl rfl ?_
   refine At.yes rfl rfl ?_
   refine tM rfl rfl ?_
   refine At.yes rfl rfl ?_
   first | refine At.val (Val.addI rfl rfl (by omega) (by omega)) rfl rfl rfl ?_ | refine At.val (Val.bin rfl rfl rfl) rfl rfl rfl ?_
   refine At.yes rfl rfl ?_
   refine At.val (Val.field 0 rfl fo_28_0 rfl) rfl rfl rfl ?_
   refine At.yes rfl rfl ?_
   refine At.val (Val.load (i := 1) Tryd.isAgg3 rfl rfl rfl) rfl rfl rfl ?_
   refine At.yes rfl rfl ?_
   refine At.val (Val.bin rfl rfl rfl) rfl rfl rfl ?_
   refine At.val (Val.pickT rfl rfl) rfl rfl rfl ?_
   refine At.nil ?_
   exact At.boolEnd rfl (by apply Bool.eq_iff_iff.2; (simp only [decide_eq_true_eq, Bool.false_eq_true, false_iff, true_iff, iff_true, iff_false, gt_iff_lt, ge_iff_le, beq_iff_eq]) <;> omega) (by repeat (first | exact Sub.nil | refine Sub.cons rfl ?_))
  ·skip
   try simp only [hasB, isSizeB, Bool.not_eq_true', Bool.not_eq_false', bne_iff_ne, ne_eq, bne_eq_false_iff_eq, beq_iff_eq, beq_eq_false_iff_ne, decide_eq_true_eq, decide_eq_false_iff_not, gt_iff_lt, ge_iff_le] at h3
   refine At.no rfl rfl rfl rfl ?_
   refine At.no rfl rfl rfl rfl ?_
   refine At.no rfl rfl rfl rfl ?_
   refine At.no rfl rfl rfl rfl ?_
   refine At.no rfl rfl rfl rfl ?_
   refine At.no rfl rfl rfl rfl ?_
   refine At.no rfl rfl rfl rfl ?_
   refine At.val (Val.pickF rfl rfl) rfl rfl rfl ?_
   refine At.nil ?_
   exact At.boolEnd rfl (by apply Bool.eq_iff_iff.2; (simp only [decide_eq_true_eq, Bool.false_eq_true, false_iff, true_iff, iff_true, iff_false, gt_iff_lt, ge_iff_le, beq_iff_eq]) <;> omega) (by repeat (first | exact Sub.nil | refine Sub.cons rfl ?_))
 ·skip
  simp only [List.drop_succ_cons, List.drop_zero]
  refine tE ?_
  refine At.cond rfl (fun h4 => ?_) (fun h4 => ?_)
  ·skip
   try simp only [hasB, isSizeB, Bool.not_eq_true', Bool.not_eq_false', bne_iff_ne, ne_eq, bne_eq_false_iff_eq, beq_iff_eq, beq_eq_false_iff_ne, decide_eq_true_eq, decide_eq_false_iff_not, gt_iff_lt, ge_iff_le] at h4
   refine At.skipC ?_
   refine At.thenN ?_
   refine At.seq ?_
   refine At.block ?_
   refine At.seq ?_
   refine tR ?_
   refine At.val (Val.field 3 rfl fo_26_3 rfl) rfl rfl rfl ?_
   refine At.val (Val.load (i := 2) Tryd.isAgg22 rfl rfl rfl) rfl rfl rfl ?_
   refine tM rfl rfl ?_
   obtain ⟨mk, hmk⟩ : ∃ m, MS[k]? = some m := ⟨_, List.getElem?_eq_getElem (by omega)⟩
   refine At.idxRd hvM Tryd.underlying22 Tryd.sizeOf4 rfl rfl (by omega) (by omega) rfl rfl (fun bo oo hoc => ?_)
   rw [Int.toNat_natCast] at hoc
   have hmc := hoc 0 (.bool mk) (by rw [Nat.mul_one, Nat.add_zero, List.getElem?_map, hmk]; rfl)
   rw [Nat.add_zero] at hmc
   refine At.val (Val.loadOld Tryd.isAgg4 rfl hmc (fun h => by simp [feet] at h)) rfl rfl rfl ?_
   refine At.val (Val.not rfl) rfl rfl rfl ?_
   refine tE ?_
   refine At.cond rfl (fun h5 => ?_) (fun h5 => ?_)
   ·skip
    try simp only [hasB, isSizeB, Bool.not_eq_true', Bool.not_eq_false', bne_iff_ne, ne_eq, bne_eq_false_iff_eq, beq_iff_eq, beq_eq_false_iff_ne, decide_eq_true_eq, decide_eq_false_iff_not, gt_iff_lt, ge_iff_le] at h5
    refine At.exitC ?_
    refine At.thenX ?_
    refine At.blkX ?_
    refine At.thenN ?_
    refine At.region ?_
    refine tM rfl rfl ?_
    first | refine At.val (Val.addI rfl rfl (by omega) (by omega)) rfl rfl rfl ?_ | refine At.val (Val.bin rfl rfl rfl) rfl rfl rfl ?_
    refine tA rfl rfl ?_
    refine tE ?_
    exact At.again (k + 1, vk, L) ⟨(show k + 1 ≤ _ by omega), ⟨hsp, hle⟩, (by dsimp only; omega), .inr (by dsimp only; omega)⟩ (by dsimp only; omega) (Sub.cons rfl (Sub.cons rfl (Sub.cons rfl (Sub.cons (congrArg (fun z => some (Value.int IntKind.i64 z)) (by dsimp only; omega)) Sub.nil)))) (List.Perm.refl _)
   ·skip
    try simp only [hasB, isSizeB, Bool.not_eq_true', Bool.not_eq_false', bne_iff_ne, ne_eq, bne_eq_false_iff_eq, beq_iff_eq, beq_eq_false_iff_ne, decide_eq_true_eq, decide_eq_false_iff_not, gt_iff_lt, ge_iff_le] at h5
    refine At.skipC ?_
    refine At.thenN ?_
    refine tR ?_
    refine tM rfl rfl ?_
    refine At.val (Val.lenRow (i := 0) Tryd.underlying30 rfl rfl) rfl rfl rfl ?_
    first | refine At.val (Val.subI rfl rfl (by omega) (by omega)) rfl rfl rfl ?_ | refine At.val (Val.bin rfl rfl rfl) rfl rfl rfl ?_
    refine tA rfl rfl ?_
    refine tE ?_
    refine At.block ?_
    refine At.seq ?_
    refine At.quiet rfl (by decide +kernel) ?_
    refine qM rfl rfl ?_
    refine QAt.val (Val.bin rfl rfl rfl) rfl rfl rfl ?_
    refine qM rfl rfl ?_
    refine QAt.split (t := 37) rfl (fun h6 => ?_) (fun h6 => ?_)
    ·skip
     try simp only [hasB, isSizeB, Bool.not_eq_true', Bool.not_eq_false', bne_iff_ne, ne_eq, bne_eq_false_iff_eq, beq_iff_eq, beq_eq_false_iff_ne, decide_eq_true_eq, decide_eq_false_iff_not, gt_iff_lt, ge_iff_le] at h6
     obtain ⟨n, hn⟩ : ∃ n, L.length = n + 1 := ⟨L.length - 1, by omega⟩
     obtain ⟨q, hq⟩ : ∃ q, L[n]? = some q := ⟨_, List.getElem?_eq_getElem (by omega)⟩
     have hok := hsp n q (by omega) hq
     have hlb := lo_bd (k := n) (fun j d hj hd => hsp j d (by omega) hd) (by omega)
     obtain ⟨M, hM⟩ : ∃ M, M = L.take n := ⟨_, rfl⟩
     have hLM := last_split hn hq
     rw [← hM] at hLM
     have hMl : M.length = n := by rw [hM, List.length_take]; omega
     have hqe : endS L = q.1 + q.2 := by rw [hLM, endS_snoc]
     unfold OkSp at hok
     refine QAt.yes rfl rfl ?_
     refine qM rfl rfl ?_
     refine QAt.yes rfl rfl ?_
     refine qM rfl rfl ?_
     refine QAt.yes rfl rfl ?_
     refine QAt.val (Val.indexRow (i := 0) (n * 2) (by omega) Tryd.underlying30 Tryd.sizeOf51 rfl rfl rfl (by omega) (by omega)) rfl rfl rfl ?_
     refine QAt.yes rfl rfl ?_
     refine QAt.val (Val.field ((n * 2 + 0)) rfl fo_51_0 rfl) rfl rfl rfl ?_
     refine QAt.yes rfl rfl ?_
     refine QAt.val (Val.loadRow (i := 0) Tryd.isAgg3 rfl rfl (prS_at hq).1) rfl rfl rfl ?_
     refine QAt.yes rfl rfl ?_
     refine qM rfl rfl ?_
     refine QAt.yes rfl rfl ?_
     refine qM rfl rfl ?_
     refine QAt.yes rfl rfl ?_
     refine QAt.val (Val.indexRow (i := 0) (n * 2) (by omega) Tryd.underlying30 Tryd.sizeOf51 rfl rfl rfl (by omega) (by omega)) rfl rfl rfl ?_
     refine QAt.yes rfl rfl ?_
     refine QAt.val (Val.field ((n * 2 + 1)) rfl fo_51_1 rfl) rfl rfl rfl ?_
     refine QAt.yes rfl rfl ?_
     refine QAt.val (Val.loadRow (i := 0) Tryd.isAgg3 rfl rfl (prS_at hq).2) rfl rfl rfl ?_
     refine QAt.yes rfl rfl ?_
     first | refine QAt.val (Val.addI rfl rfl (by omega) (by omega)) rfl rfl rfl ?_ | refine QAt.val (Val.bin rfl rfl rfl) rfl rfl rfl ?_
     refine QAt.yes rfl rfl ?_
     refine QAt.val (Val.field 3 rfl fo_28_3 rfl) rfl rfl rfl ?_
     refine QAt.yes rfl rfl ?_
     refine QAt.val (Val.load (i := 1) Tryd.isAgg3 rfl rfl rfl) rfl rfl rfl ?_
     refine QAt.yes rfl rfl ?_
     refine qM rfl rfl ?_
     refine QAt.yes rfl rfl ?_
     first | refine QAt.val (Val.addI rfl rfl (by omega) (by omega)) rfl rfl rfl ?_ | refine QAt.val (Val.bin rfl rfl rfl) rfl rfl rfl ?_
     refine QAt.yes rfl rfl ?_
     refine QAt.val (Val.bin rfl rfl rfl) rfl rfl rfl ?_
     refine QAt.val (Val.pickT rfl rfl) rfl rfl rfl ?_
     refine QAt.val (Val.assign rfl) rfl rfl rfl ?_
     refine QAt.fin ?_
     refine At.thenN ?_
     refine At.cond rfl (fun h7 => ?_) (fun h7 => ?_)
     ·skip
      try simp only [hasB, isSizeB, Bool.not_eq_true', Bool.not_eq_false', bne_iff_ne, ne_eq, bne_eq_false_iff_eq, beq_iff_eq, beq_eq_false_iff_ne, decide_eq_true_eq, decide_eq_false_iff_not, gt_iff_lt, ge_iff_le] at h7
      refine At.region ?_
      refine tM rfl rfl ?_
      refine tM rfl rfl ?_
      refine At.val (Val.indexRow (i := 0) (n * 2) (by omega) Tryd.underlying30 Tryd.sizeOf51 rfl rfl rfl (by omega) (by omega)) rfl rfl rfl ?_
      refine At.val (Val.field ((n * 2 + 1)) rfl fo_51_1 rfl) rfl rfl rfl ?_
      refine At.val (Val.loadRow (i := 0) Tryd.isAgg3 rfl rfl (prS_at hq).2) rfl rfl rfl ?_
      first | refine At.val (Val.addI rfl rfl (by omega) (by omega)) rfl rfl rfl ?_ | refine At.val (Val.bin rfl rfl rfl) rfl rfl rfl ?_
      refine At.val (Val.indexRow (i := 0) (n * 2) (by omega) Tryd.underlying30 Tryd.sizeOf51 rfl rfl rfl (by omega) (by omega)) rfl rfl rfl ?_
      refine At.val (Val.field ((n * 2 + 1)) rfl fo_51_1 rfl) rfl rfl rfl ?_
      refine At.storeRow (i := 0) Tryd.sizeOf3 rfl rfl rfl rfl (by rw [prS_length]; omega) ?_
      simp only [sc0, scS]
      rw [show (prS L).set (n * 2 + 1) (.int .i64 (q.2 + 1)) = prS (M ++ [(q.1, q.2 + 1)]) from by rw [hLM, ← hMl]; exact prS_snoc' M q (q.2 + 1), show L.length = (M ++ [(q.1, q.2 + 1)]).length from by rw [hLM, List.length_append, List.length_append]; rfl]
      have hM2 : SpOk (M ++ [(q.1, q.2 + 1)]) := ⟨spK_app (fun j d hj hd => by have h8 := hsp j d (by omega) (by rw [hLM, List.getElem?_append_left hj]; exact hd); rwa [show loAt M j = loAt L j from by unfold loAt; rw [hM, List.take_take, Nat.min_eq_left (by omega)]]) (by have h7 := endS_lo M; rw [hMl, show loAt M n = loAt L n from by unfold loAt; rw [hM, List.take_take, Nat.min_self]] at h7; unfold OkSp; dsimp only; omega), (by rw [List.length_append, List.length_singleton]; omega)⟩
      refine At.nil ?_
      refine At.blkN ?_
      refine At.blkN ?_
      refine At.thenN ?_
      refine At.region ?_
      refine tM rfl rfl ?_
      first | refine At.val (Val.addI rfl rfl (by omega) (by omega)) rfl rfl rfl ?_ | refine At.val (Val.bin rfl rfl rfl) rfl rfl rfl ?_
      refine tA rfl rfl ?_
      refine tE ?_
      exact At.again (k + 1, vk, M ++ [(q.1, q.2 + 1)]) ⟨(show k + 1 ≤ _ by omega), hM2, (by rw [endS_snoc]; dsimp only; omega), .inr (by dsimp only; omega)⟩ (by dsimp only; omega) (Sub.cons rfl (Sub.cons rfl (Sub.cons rfl (Sub.cons (congrArg (fun z => some (Value.int IntKind.i64 z)) (by dsimp only; omega)) Sub.nil)))) (List.Perm.refl _)
     ·skip
      try simp only [hasB, isSizeB, Bool.not_eq_true', Bool.not_eq_false', bne_iff_ne, ne_eq, bne_eq_false_iff_eq, beq_iff_eq, beq_eq_false_iff_ne, decide_eq_true_eq, decide_eq_false_iff_not, gt_iff_lt, ge_iff_le] at h7
      refine tR ?_
      refine tM rfl rfl ?_
      refine At.val (Val.bin rfl rfl rfl) rfl rfl rfl ?_
      refine tA rfl rfl ?_
      refine tE ?_
      refine At.cond rfl (fun h8 => ?_) (fun h8 => ?_)
      ·skip
       try simp only [hasB, isSizeB, Bool.not_eq_true', Bool.not_eq_false', bne_iff_ne, ne_eq, bne_eq_false_iff_eq, beq_iff_eq, beq_eq_false_iff_ne, decide_eq_true_eq, decide_eq_false_iff_not, gt_iff_lt, ge_iff_le] at h8
       refine At.region ?_
       refine tM rfl rfl ?_
       refine At.val (Val.field 3 rfl fo_28_3 rfl) rfl rfl rfl ?_
       refine At.val (Val.load (i := 1) Tryd.isAgg3 rfl rfl rfl) rfl rfl rfl ?_
       refine tM rfl rfl ?_
       first | refine At.val (Val.addI rfl rfl (by omega) (by omega)) rfl rfl rfl ?_ | refine At.val (Val.bin rfl rfl rfl) rfl rfl rfl ?_
       refine At.val (Val.build (fun a ha => by simp only [List.map_toArray, List.map_cons, List.map_nil, ha.eval (x := (.tmp 70)) rfl, ha.eval (x := (.const (.int .i64 (1)))) rfl] <;> rfl) (bld_51_0_1 _ _ )) rfl rfl rfl ?_
       refine At.buildSl (fun a ha => by simp only [List.map_toArray, List.map_cons, List.map_nil, ha.eval (x := (.tmp 71)) rfl]; try rfl) (bs_30_1 _ _ ) rfl (fun b9 => ?_)
       refine At.appendS1 (i := 1) (j := 0) (by_ := 16) Tryd.underlying30 info_51 rfl rfl rfl rfl rfl rfl rfl rfl (by omega) (by omega) rfl (fun v10 => ?_)
       simp only [sc0, scS]
       refine At.drop 0 ?_
       simp only [ec0, ecS]
       refine tA rfl rfl ?_
       refine At.nil ?_
       refine At.blkN ?_
       refine At.blkN ?_
       refine At.thenN ?_
       refine At.region ?_
       refine tM rfl rfl ?_
       first | refine At.val (Val.addI rfl rfl (by omega) (by omega)) rfl rfl rfl ?_ | refine At.val (Val.bin rfl rfl rfl) rfl rfl rfl ?_
       refine tA rfl rfl ?_
       refine tE ?_
       exact At.again (k + 1, v10, L ++ [(4 + I' / 8 + (k : Int), 1)]) ⟨(show k + 1 ≤ _ by omega), ⟨spK_app hsp (by unfold OkSp; dsimp only; omega), (by rw [List.length_append, List.length_singleton]; omega)⟩, (by rw [endS_snoc]; dsimp only; omega), .inr (by dsimp only; omega)⟩ (by dsimp only; omega) (Sub.cons rfl (Sub.cons rfl (Sub.cons rfl (Sub.cons (congrArg (fun z => some (Value.int IntKind.i64 z)) (by dsimp only; omega)) Sub.nil)))) (List.Perm.refl _)
      ·skip
       try simp only [hasB, isSizeB, Bool.not_eq_true', Bool.not_eq_false', bne_iff_ne, ne_eq, bne_eq_false_iff_eq, beq_iff_eq, beq_eq_false_iff_ne, decide_eq_true_eq, decide_eq_false_iff_not, gt_iff_lt, ge_iff_le] at h8
       refine At.skipC ?_
       refine At.blkN ?_
       refine At.blkN ?_
       refine At.thenN ?_
       refine At.region ?_
       refine tM rfl rfl ?_
       first | refine At.val (Val.addI rfl rfl (by omega) (by omega)) rfl rfl rfl ?_ | refine At.val (Val.bin rfl rfl rfl) rfl rfl rfl ?_
       refine tA rfl rfl ?_
       refine tE ?_
       exact At.again (k + 1, vk, L) ⟨(show k + 1 ≤ _ by omega), ⟨hsp, hle⟩, (by dsimp only; omega), .inr (by dsimp only; omega)⟩ (by dsimp only; omega) (Sub.cons rfl (Sub.cons rfl (Sub.cons rfl (Sub.cons (congrArg (fun z => some (Value.int IntKind.i64 z)) (by dsimp only; omega)) Sub.nil)))) (List.Perm.refl _)
    ·skip
     try simp only [hasB, isSizeB, Bool.not_eq_true', Bool.not_eq_false', bne_iff_ne, ne_eq, bne_eq_false_iff_eq, beq_iff_eq, beq_eq_false_iff_ne, decide_eq_true_eq, decide_eq_false_iff_not, gt_iff_lt, ge_iff_le] at h6
     have hL0 : L = [] := List.eq_nil_of_length_eq_zero (by omega)
     have hqe : endS L = 4 := by rw [hL0]; rfl
     refine QAt.no rfl rfl rfl rfl ?_
     refine QAt.no rfl rfl rfl rfl ?_
     refine QAt.no rfl rfl rfl rfl ?_
     refine QAt.no rfl rfl rfl rfl ?_
     refine QAt.no rfl rfl rfl rfl ?_
     refine QAt.no rfl rfl rfl rfl ?_
     refine QAt.no rfl rfl rfl rfl ?_
     refine QAt.no rfl rfl rfl rfl ?_
     refine QAt.no rfl rfl rfl rfl ?_
     refine QAt.no rfl rfl rfl rfl ?_
     refine QAt.no rfl rfl rfl rfl ?_
     refine QAt.no rfl rfl rfl rfl ?_
     refine QAt.no rfl rfl rfl rfl ?_
     refine QAt.no rfl rfl rfl rfl ?_
     refine QAt.no rfl rfl rfl rfl ?_
     refine QAt.no rfl rfl rfl rfl ?_
     refine QAt.val (Val.pickF rfl rfl) rfl rfl rfl ?_
     refine QAt.val (Val.assign rfl) rfl rfl rfl ?_
     refine QAt.fin ?_
     refine At.thenN ?_
     refine At.condF rfl ?_
     refine tR ?_
     refine tM rfl rfl ?_
     refine At.val (Val.bin rfl rfl rfl) rfl rfl rfl ?_
     refine tA rfl rfl ?_
     refine tE ?_
     refine At.cond rfl (fun h11 => ?_) (fun h11 => ?_)
     ·skip
      try simp only [hasB, isSizeB, Bool.not_eq_true', Bool.not_eq_false', bne_iff_ne, ne_eq, bne_eq_false_iff_eq, beq_iff_eq, beq_eq_false_iff_ne, decide_eq_true_eq, decide_eq_false_iff_not, gt_iff_lt, ge_iff_le] at h11
      refine At.region ?_
      refine tM rfl rfl ?_
      refine At.val (Val.field 3 rfl fo_28_3 rfl) rfl rfl rfl ?_
      refine At.val (Val.load (i := 1) Tryd.isAgg3 rfl rfl rfl) rfl rfl rfl ?_
      refine tM rfl rfl ?_
      first | refine At.val (Val.addI rfl rfl (by omega) (by omega)) rfl rfl rfl ?_ | refine At.val (Val.bin rfl rfl rfl) rfl rfl rfl ?_
      refine At.val (Val.build (fun a ha => by simp only [List.map_toArray, List.map_cons, List.map_nil, ha.eval (x := (.tmp 70)) rfl, ha.eval (x := (.const (.int .i64 (1)))) rfl] <;> rfl) (bld_51_0_1 _ _ )) rfl rfl rfl ?_
      refine At.buildSl (fun a ha => by simp only [List.map_toArray, List.map_cons, List.map_nil, ha.eval (x := (.tmp 71)) rfl]; try rfl) (bs_30_1 _ _ ) rfl (fun b12 => ?_)
      refine At.appendS1 (i := 1) (j := 0) (by_ := 16) Tryd.underlying30 info_51 rfl rfl rfl rfl rfl rfl rfl rfl (by omega) (by omega) rfl (fun v13 => ?_)
      simp only [sc0, scS]
      refine At.drop 0 ?_
      simp only [ec0, ecS]
      refine tA rfl rfl ?_
      refine At.nil ?_
      refine At.blkN ?_
      refine At.blkN ?_
      refine At.thenN ?_
      refine At.region ?_
      refine tM rfl rfl ?_
      first | refine At.val (Val.addI rfl rfl (by omega) (by omega)) rfl rfl rfl ?_ | refine At.val (Val.bin rfl rfl rfl) rfl rfl rfl ?_
      refine tA rfl rfl ?_
      refine tE ?_
      exact At.again (k + 1, v13, L ++ [(4 + I' / 8 + (k : Int), 1)]) ⟨(show k + 1 ≤ _ by omega), ⟨spK_app hsp (by unfold OkSp; dsimp only; omega), (by rw [List.length_append, List.length_singleton]; omega)⟩, (by rw [endS_snoc]; dsimp only; omega), .inr (by dsimp only; omega)⟩ (by dsimp only; omega) (Sub.cons rfl (Sub.cons rfl (Sub.cons rfl (Sub.cons (congrArg (fun z => some (Value.int IntKind.i64 z)) (by dsimp only; omega)) Sub.nil)))) (List.Perm.refl _)
     ·skip
      try simp only [hasB, isSizeB, Bool.not_eq_true', Bool.not_eq_false', bne_iff_ne, ne_eq, bne_eq_false_iff_eq, beq_iff_eq, beq_eq_false_iff_ne, decide_eq_true_eq, decide_eq_false_iff_not, gt_iff_lt, ge_iff_le] at h11
      refine At.skipC ?_
      refine At.blkN ?_
      refine At.blkN ?_
      refine At.thenN ?_
      refine At.region ?_
      refine tM rfl rfl ?_
      first | refine At.val (Val.addI rfl rfl (by omega) (by omega)) rfl rfl rfl ?_ | refine At.val (Val.bin rfl rfl rfl) rfl rfl rfl ?_
      refine tA rfl rfl ?_
      refine tE ?_
      exact At.again (k + 1, vk, L) ⟨(show k + 1 ≤ _ by omega), ⟨hsp, hle⟩, (by dsimp only; omega), .inr (by dsimp only; omega)⟩ (by dsimp only; omega) (Sub.cons rfl (Sub.cons rfl (Sub.cons rfl (Sub.cons (congrArg (fun z => some (Value.int IntKind.i64 z)) (by dsimp only; omega)) Sub.nil)))) (List.Perm.refl _)
  ·skip
   try simp only [hasB, isSizeB, Bool.not_eq_true', Bool.not_eq_false', bne_iff_ne, ne_eq, bne_eq_false_iff_eq, beq_iff_eq, beq_eq_false_iff_ne, decide_eq_true_eq, decide_eq_false_iff_not, gt_iff_lt, ge_iff_le] at h4
   refine At.exitC ?_
   refine At.thenX ?_
   refine At.thenX ?_
   refine At.blkX ?_
   refine At.thenN ?_
   refine tR ?_
   refine tM rfl rfl ?_
   refine tA rfl rfl ?_
   refine tE ?_
   refine At.retC ?_
   refine At.ret1 (.inl rfl) rfl rfl rfl (fun w hw => ?_)
   exact ⟨(vk, L), rfl, ⟨hsp, hle⟩, hw.drop (List.singleton_sublist.2 (List.mem_of_getElem? (i := 0) rfl))⟩
end Go.Proofs.YtpihenmdkoojdaaDoor
set_option linter.unusedVariables false
set_option linter.unusedSimpArgs false
namespace Go.Proofs.YtpihenmdkoojdaaDoor
open Go Go.Wk
def storeU (σ : Ds) (a : Int) (x : BitVec 64) : Ds := if placeE σ a ≠ 0 then σ else storeD σ (a / 8).toNat x
theorem storeU_rest (σ : Ds) (a : Int) (x : BitVec 64) : (storeU σ a x).ws.length = σ.ws.length ∧ (storeU σ a x).armed = σ.armed ∧ (storeU σ a x).steps ≤ σ.steps + 1 := by
  unfold storeU
  split
  · exact ⟨rfl, rfl, Nat.le_succ _⟩
  · rename_i h
    obtain ⟨K, rfl, hK⟩ := place_inv (Decidable.not_not.1 h)
    rw [show (8 * (K : Int) / 8).toNat = K by omega]
    obtain ⟨h1, h2, h3⟩ := storeD_rest x hK
    exact ⟨h3, h2, Nat.le_of_eq h1⟩
theorem storeU_t (p : Nat) (γ : Gh) (σ : Ds) (a : Int) (x : BitVec 64) (w : World) (ha : σ.armed = false) (hs : σ.steps + 1 ≤ 10000000000000) (hd : (Dev p γ σ).holds w) : DevU Tryd.prog 27 [.pointer (some ⟨p, 0, none⟩), .int .i64 a, b64 x] p γ σ (.int .i64 (placeE σ a)) (storeU σ a x) w := by
  unfold storeU
  split
  · rename_i h; exact (store_no p γ σ a x w h hd).mono fun e w' ⟨he, hr⟩ => ⟨γ, he, hr⟩
  · rename_i h
    have h' : placeE σ a = 0 := Decidable.not_not.1 h
    rw [h']
    obtain ⟨K, rfl, hK⟩ := place_inv h'
    rw [show (8 * (K : Int) / 8).toNat = K by omega, storeD_some (List.getElem?_eq_getElem hK)]
    exact store_d p γ σ K _ x w (List.getElem?_eq_getElem hK) hs (dead_of ha) hd
def devW (N : Nat) (WS : List (Int × BitVec 64)) : Ds := WS.foldl (fun σ c => storeU σ c.1 c.2) (zeroD N)
theorem devW_snoc (N : Nat) (WS : List (Int × BitVec 64)) (c : Int × BitVec 64) : devW N (WS ++ [c]) = storeU (devW N WS) c.1 c.2 := by unfold devW; rw [List.foldl_append]; rfl
theorem fold_rest : ∀ (WS : List (Int × BitVec 64)) (σ : Ds), (WS.foldl (fun σ c => storeU σ c.1 c.2) σ).ws.length = σ.ws.length ∧ (WS.foldl (fun σ c => storeU σ c.1 c.2) σ).armed = σ.armed ∧ (WS.foldl (fun σ c => storeU σ c.1 c.2) σ).steps ≤ σ.steps + WS.length
  | [], σ => ⟨rfl, rfl, Nat.le_refl _⟩
  | c :: WS, σ => by
    obtain ⟨h1, h2, h3⟩ := storeU_rest σ c.1 c.2
    obtain ⟨g1, g2, g3⟩ := fold_rest WS (storeU σ c.1 c.2)
    exact ⟨g1.trans h1, g2.trans h2, Nat.le_trans g3 (by rw [List.length_cons]; omega)⟩
theorem devW_rest (N : Nat) (WS : List (Int × BitVec 64)) : (devW N WS).ws.length = N ∧ (devW N WS).armed = false ∧ (devW N WS).steps ≤ WS.length := by
  obtain ⟨h1, h2, h3⟩ := fold_rest WS (zeroD N)
  exact ⟨h1.trans (zeroD_len N), h2, Nat.le_trans h3 (by show 0 + _ ≤ _; omega)⟩
def devS (N : Nat) (WS : List (Int × BitVec 64)) : Ds := storeD (devW N WS) 16 0
def devD (N : Nat) (WS : List (Int × BitVec 64)) : Ds := fenceD (stepD (linesD 0 (devS N WS) (N / 8)))
theorem devS_rest {N : Nat} (h : 16 < N) (WS : List (Int × BitVec 64)) : (devS N WS).ws.length = N ∧ (devS N WS).armed = false ∧ (devS N WS).steps ≤ WS.length + 1 := by
  obtain ⟨h1, h2, h3⟩ := devW_rest N WS
  obtain ⟨g1, g2, g3⟩ := storeD_rest (σ := devW N WS) 0 (show 16 < _ by omega)
  exact ⟨g3.trans h1, g2.trans h2, by show (storeD (devW N WS) 16 0).steps ≤ _; omega⟩
theorem fenceW_mark (w : Wd) : (fenceW w).mark = 0 := by
  unfold fenceW
  split
  · assumption
  · rfl
theorem devD_ok {N : Nat} (h : 16 < N) (h8 : N % 8 = 0) (WS : List (Int × BitVec 64)) : ∃ vs, (devD N WS).ws = mkC vs ∧ vs.length = N ∧ vs[16]? = some 0 ∧ (devD N WS).armed = false ∧ (devD N WS).steps ≤ WS.length + N / 8 + 2 := by
  obtain ⟨s1, s2, s3⟩ := devS_rest h WS
  obtain ⟨q1, q2, q3⟩ := linesD_rest (N / 8) 0 (devS N WS)
  have hc := calm_all (σ := devS N WS) (σ' := linesD 0 (devS N WS) (N / 8)) q3 (fun k w hk => by
    obtain ⟨m, g1, g2, _⟩ := linesD_at (N / 8) 0 (devS N WS) hk
    have hk' := (List.getElem?_eq_some_iff.1 hk).1
    exact ⟨m, g1, g2 (by omega)⟩)
  obtain ⟨w1, w2, w3⟩ := devW_rest N WS
  obtain ⟨wd, hwd⟩ : ∃ wd, (devW N WS).ws[16]? = some wd := ⟨_, List.getElem?_eq_getElem (by omega)⟩
  refine ⟨viewWs (devD N WS).ws, mkC_of (fun w hw => ⟨hc.1 w hw, ?_⟩), ?_, ?_, q2.trans s2, ?_⟩
  · obtain ⟨u, _, rfl⟩ := List.mem_map.1 hw
    exact fenceW_mark u
  · rw [viewWs_len]
    show (List.map fenceW _).length = N
    rw [List.length_map]; exact q3.trans s1
  · show (viewWs (fenceD (stepD (linesD 0 (devS N WS) (N / 8)))).ws)[16]? = some 0
    rw [hc.2]
    unfold viewWs
    rw [List.getElem?_map]
    show Option.map nowW (storeD (devW N WS) 16 0).ws[16]? = _
    rw [storeD_some hwd, setD_self (σ := stepD (devW N WS)) hwd]
    show some (nowW (pushW wd 0)) = some 0
    unfold nowW pushW; simp
  · show (linesD 0 (devS N WS) (N / 8)).steps + 1 ≤ _
    omega
theorem sameSpL_p (v u : Value) (L M : List (Int × Int)) (w : World) (hv : RdS w v L) (hu : RdS w u M) (hl : L.length ≤ 8796093022144) (hm : M.length ≤ 8796093022144) :
    PureC Tryd.prog 16 [v, u] (.bool (decide (L = M))) w := by
 refine enter0 Tryd.func16 rfl Tryd.ntmps16 rfl ?_
 simp only [envOf]
 refine tR ?_
 refine tA rfl rfl ?_
 refine tE ?_
 refine At.seq ?_
 refine tR ?_
 refine tM rfl rfl ?_
 refine At.val (Val.lenRd hv Tryd.underlying30 rfl) rfl rfl rfl ?_
 refine tM rfl rfl ?_
 refine At.val (Val.lenRd hu Tryd.underlying30 rfl) rfl rfl rfl ?_
 refine At.val (Val.bin rfl rfl rfl) rfl rfl rfl ?_
 refine tE ?_
 refine At.cond rfl (fun h1 => ?_) (fun h1 => ?_)
 ·skip
  try simp only [hasB, isSizeB, Bool.not_eq_true', Bool.not_eq_false', bne_iff_ne, ne_eq, bne_eq_false_iff_eq, beq_iff_eq, beq_eq_false_iff_ne, decide_eq_true_eq, decide_eq_false_iff_not, gt_iff_lt, ge_iff_le] at h1
  refine tR ?_
  refine tA rfl rfl ?_
  refine tE ?_
  refine At.retC ?_
  refine At.thenR ?_
  refine At.ret1 (.inl rfl) rfl rfl rfl (fun w hw => ?_)
  exact ⟨retB (decide_eq_false (fun e => ‹¬ (L.length : Int) = M.length› (by rw [e]))).symm, hw.mod⟩
 ·skip
  try simp only [hasB, isSizeB, Bool.not_eq_true', Bool.not_eq_false', bne_iff_ne, ne_eq, bne_eq_false_iff_eq, beq_iff_eq, beq_eq_false_iff_ne, decide_eq_true_eq, decide_eq_false_iff_not, gt_iff_lt, ge_iff_le] at h1
  have hn : L.length = M.length := by omega
  refine At.skipC ?_
  refine At.thenN ?_
  refine At.seq ?_
  refine tR ?_
  refine tA rfl rfl ?_
  refine tE ?_
  refine At.block ?_
  skip
  refine At.loop (σ := Nat) (fun k => k ≤ L.length ∧ L.take k = M.take k) (fun k => [(0, v), (1, u), (5, .int .i64 (k : Int))]) (fun k => []) (fun k => L.length - k) 0 ⟨Nat.zero_le _, rfl⟩ (Sub.cons rfl (Sub.cons rfl (Sub.cons rfl Sub.nil))) (List.Perm.refl _) ?_
  intro k hs
  refine At.seq ?_
  refine tR ?_
  refine tM rfl rfl ?_
  refine tM rfl rfl ?_
  refine At.val (Val.lenRd hv Tryd.underlying30 rfl) rfl rfl rfl ?_
  refine At.val (Val.bin rfl rfl rfl) rfl rfl rfl ?_
  refine tE ?_
  refine At.cond rfl (fun h2 => ?_) (fun h2 => ?_)
  ·skip
   try simp only [hasB, isSizeB, Bool.not_eq_true', Bool.not_eq_false', bne_iff_ne, ne_eq, bne_eq_false_iff_eq, beq_iff_eq, beq_eq_false_iff_ne, decide_eq_true_eq, decide_eq_false_iff_not, gt_iff_lt, ge_iff_le] at h2
   refine At.skipC ?_
   refine At.thenN ?_
   refine At.seq ?_
   refine At.block ?_
   refine At.seq ?_
   refine At.quiet rfl (by decide +kernel) ?_
   refine qM rfl rfl ?_
   refine qM rfl rfl ?_
   refine QAt.idxS hv Tryd.underlying30 Tryd.sizeOf51 rfl rfl (by omega) (by omega) rfl rfl (fun b3 o4 q5 hq6 hc7 hd8 => ?_)
   refine QAt.val (Val.loadSpan Tryd.isAgg51 Tryd.sizeOf51 rfl hc7 hd8 (fun h => h)) rfl rfl rfl ?_
   refine qM rfl rfl ?_
   refine qM rfl rfl ?_
   refine QAt.idxS hu Tryd.underlying30 Tryd.sizeOf51 rfl rfl (by omega) (by omega) rfl rfl (fun b9 o10 q11 hq12 hc13 hd14 => ?_)
   refine QAt.val (Val.loadSpan Tryd.isAgg51 Tryd.sizeOf51 rfl hc13 hd14 (fun h => h)) rfl rfl rfl ?_
   have hqa : L[k]? = some q5 := by have h1 := hq6; rwa [Int.toNat_natCast] at h1
   have hqb : M[k]? = some q11 := by have h1 := hq12; rwa [Int.toNat_natCast] at h1
   refine QAt.val (Val.neAgg Tryd.eqGuardType51 (fun w => eq_51 _ _ _ _ w) rfl rfl) rfl rfl rfl ?_
   rw [ne_span]
   refine QAt.fin ?_
   refine At.thenN ?_
   refine At.cond rfl (fun h15 => ?_) (fun h15 => ?_)
   ·skip
    try simp only [hasB, isSizeB, Bool.not_eq_true', Bool.not_eq_false', bne_iff_ne, ne_eq, bne_eq_false_iff_eq, beq_iff_eq, beq_eq_false_iff_ne, decide_eq_true_eq, decide_eq_false_iff_not, gt_iff_lt, ge_iff_le] at h15
    have hne := h15
    refine tR ?_
    refine tA rfl rfl ?_
    refine tE ?_
    refine At.retC ?_
    refine At.blkR ?_
    refine At.thenR ?_
    refine At.thenR ?_
    refine At.blkR ?_
    refine At.thenR ?_
    refine At.ret1 (.inl rfl) rfl rfl rfl (fun w hw => ?_)
    exact ⟨retB (decide_eq_false (fun e => by subst e; rw [hqa] at hqb; exact hne (Option.some.inj hqb))).symm, hw.mod⟩
   ·skip
    try simp only [hasB, isSizeB, Bool.not_eq_true', Bool.not_eq_false', bne_iff_ne, ne_eq, bne_eq_false_iff_eq, beq_iff_eq, beq_eq_false_iff_ne, decide_eq_true_eq, decide_eq_false_iff_not, gt_iff_lt, ge_iff_le] at h15
    have heq := Classical.not_not.1 h15
    refine At.skipC ?_
    refine At.blkN ?_
    refine At.thenN ?_
    refine At.region ?_
    refine tM rfl rfl ?_
    first | refine At.val (Val.addI rfl rfl (by omega) (by omega)) rfl rfl rfl ?_ | refine At.val (Val.bin rfl rfl rfl) rfl rfl rfl ?_
    refine tA rfl rfl ?_
    refine tE ?_
    exact At.again (k + 1) ⟨by omega, by rw [List.take_add_one, List.take_add_one, hs.2, hqa, hqb, heq]⟩ (by omega) (Sub.cons rfl (Sub.cons rfl (Sub.cons (congrArg (fun z => some (Value.int IntKind.i64 z)) (by omega)) Sub.nil))) (List.Perm.refl _)
  ·skip
   try simp only [hasB, isSizeB, Bool.not_eq_true', Bool.not_eq_false', bne_iff_ne, ne_eq, bne_eq_false_iff_eq, beq_iff_eq, beq_eq_false_iff_ne, decide_eq_true_eq, decide_eq_false_iff_not, gt_iff_lt, ge_iff_le] at h2
   refine At.exitC ?_
   refine At.thenX ?_
   refine At.thenX ?_
   refine At.blkX ?_
   refine At.thenN ?_
   refine tR ?_
   refine tA rfl rfl ?_
   refine tE ?_
   refine At.retC ?_
   refine At.ret1 (.inl rfl) rfl rfl rfl (fun w hw => ?_)
   exact ⟨retB (decide_eq_true (by have h1 := hs.2; rw [List.take_of_length_le (by omega), List.take_of_length_le (by omega)] at h1; exact h1)).symm, hw.mod⟩
theorem device_n (pg ino co lf : Int) (vM vW vL : Value) (WS : List (Int × BitVec 64)) (N : Nat) (w : World) (hvW : RdP w vW WS) (hmW : WS.length ≤ 8796093022208) (hN : 8 * (N : Int) = 512 * (shV pg ino co).1) :
    NewDevB Tryd.prog 11 [.agg #[.int .i64 pg, .int .i64 ino, .int .i64 co, vM, vW, .int .i64 lf, vL]] (devD N WS) w := by
 refine enter (feet []) [] Tryd.func11 rfl Tryd.ntmps11 rfl ⟨by simp, by simp, by simp, Mod.refl _ _⟩ ?_
 obtain ⟨S, hS⟩ : ∃ S, S = shV pg ino co := ⟨_, rfl⟩
 have hS' := shV_ok pg ino co
 rw [← hS] at hS' hN
 obtain ⟨P, I', C', D'⟩ := S
 dsimp only at hS' hN
 obtain ⟨hg, rfl⟩ := hS'
 have hg2 := hg
 unfold GoodSup at hg2
 have hsz : isSizeB (512 * P) = true := by unfold isSizeB; rw [decide_eq_true_eq]; omega
 simp only [envOf]
 refine tR ?_
 refine At.box rfl rfl rfl (fun b1 => ?_)
 refine tA rfl rfl ?_
 refine tA rfl rfl ?_
 refine tE ?_
 refine tR ?_
 refine At.val (Val.loadAll (i := 0) Tryd.isAgg26 Tryd.sizeOf26 rfl rfl rfl) rfl rfl rfl ?_
 refine At.callP (fun w hw => (by have h0 := shape_p pg ino co lf vM vW vL w; rw [← hS] at h0; exact h0)) Tryd.call9 rfl rfl ?_
 refine At.alloc Tryd.zeroValue28 rfl rfl (fun b2 => ?_)
 refine At.storeAll (i := 0) Tryd.sizeOf28 rfl rfl rfl (by simp [Value.oneCell']) rfl rfl ?_
 simp only [sc0, scS]
 refine tE ?_
 refine tR ?_
 refine At.val (Val.field 0 rfl fo_28_0 rfl) rfl rfl rfl ?_
 refine At.val (Val.load (i := 0) Tryd.isAgg3 rfl rfl rfl) rfl rfl rfl ?_
 first | refine At.val (Val.mulI rfl rfl (by omega) (by omega)) rfl rfl rfl ?_ | refine At.val (Val.bin rfl rfl rfl) rfl rfl rfl ?_
 refine At.callND (fun w hw => new_n _ w hsz N hN) Tryd.call20 rfl rfl (fun p3 y4 => ?_)
 refine tM rfl rfl ?_
 refine At.val (Val.extract rfl rfl) rfl rfl rfl ?_
 refine At.val (Val.extract rfl rfl) rfl rfl rfl ?_
 refine tA rfl rfl ?_
 refine tA rfl rfl ?_
 refine tE ?_
 refine At.seq ?_
 refine tR ?_
 refine tM rfl rfl ?_
 refine At.val (Val.eqNil (t := 32) (by kernel_rfl) rfl) rfl rfl rfl ?_
 refine tM rfl rfl ?_
 refine At.yes rfl rfl ?_
 refine tM rfl rfl ?_
 refine At.yes rfl rfl ?_
 refine At.val (Val.bin rfl rfl rfl) rfl rfl rfl ?_
 refine At.val (Val.pickF rfl rfl) rfl rfl rfl ?_
 refine tE ?_
 refine At.condF rfl ?_
 refine At.skipC ?_
 refine At.thenN ?_
 refine At.seq ?_
 refine tR ?_
 refine tA rfl rfl ?_
 refine tE ?_
 refine At.block ?_
 skip
 refine At.loop (σ := Nat × Gh) (fun s => s.1 ≤ WS.length) (fun s => [(1, .pointer (some ⟨b1, 0, none⟩)), (4, .pointer (some ⟨b2, 0, none⟩)), (5, .pointer (some ⟨p3, 0, none⟩)), (7, .int .i64 (s.1 : Int))]) (fun s => [Dev p3 s.2 (devW N (WS.take s.1)), blk b2 28 ([.int .i64 P, .int .i64 I', .int .i64 C', .int .i64 (4 + I' / 8)]), blk b1 26 ([.int .i64 pg, .int .i64 ino, .int .i64 co, vM, vW, .int .i64 lf, vL])]) (fun s => WS.length - s.1) (0, y4) (Nat.zero_le _) (Sub.cons rfl (Sub.cons rfl (Sub.cons rfl (Sub.cons rfl Sub.nil)))) (List.Perm.refl _) ?_
 intro s hs
 obtain ⟨k, γ1⟩ := s
 dsimp only at hs ⊢
 obtain ⟨d1, d2, d3⟩ := devW_rest N (WS.take k)
 have d4 : (WS.take k).length = k := by rw [List.length_take]; omega
 refine At.seq ?_
 refine tR ?_
 refine tM rfl rfl ?_
 refine At.val (Val.field 4 rfl fo_26_4 rfl) rfl rfl rfl ?_
 refine At.val (Val.load (i := 2) Tryd.isAgg23 rfl rfl rfl) rfl rfl rfl ?_
 refine At.val (Val.lenRd hvW Tryd.underlying23 rfl) rfl rfl rfl ?_
 refine At.val (Val.bin rfl rfl rfl) rfl rfl rfl ?_
 refine tE ?_
 refine At.cond rfl (fun h5 => ?_) (fun h5 => ?_)
 ·skip
  try simp only [hasB, isSizeB, Bool.not_eq_true', Bool.not_eq_false', bne_iff_ne, ne_eq, bne_eq_false_iff_eq, beq_iff_eq, beq_eq_false_iff_ne, decide_eq_true_eq, decide_eq_false_iff_not, gt_iff_lt, ge_iff_le] at h5
  obtain ⟨qk, hqk⟩ : ∃ q, WS[k]? = some q := ⟨_, List.getElem?_eq_getElem (by omega)⟩
  refine At.skipC ?_
  refine At.thenN ?_
  refine At.seq ?_
  refine At.block ?_
  refine At.tail 13 rfl (by decide +kernel) ?_
  simp only [List.take_succ_cons, List.take_zero, List.drop_succ_cons, List.drop_zero]
  refine qM rfl rfl ?_
  refine QAt.val (Val.field 4 rfl fo_26_4 rfl) rfl rfl rfl ?_
  refine QAt.val (Val.load (i := 2) Tryd.isAgg23 rfl rfl rfl) rfl rfl rfl ?_
  refine qM rfl rfl ?_
  refine QAt.idxP hvW Tryd.underlying23 Tryd.sizeOf67 rfl rfl (by omega) (by omega) rfl rfl (fun b6 o7 q8 hq9 hc10 hd11 => ?_)
  have hqe : qk = q8 := by have h8 := hq9; rw [Int.toNat_natCast, hqk] at h8; exact Option.some.inj h8
  subst hqe
  refine QAt.val (Val.field o7 rfl fo_67_0 rfl) rfl rfl rfl ?_
  refine QAt.val (Val.loadOld Tryd.isAgg3 rfl hc10 (fun h => by simp [feet] at h)) rfl rfl rfl ?_
  refine QAt.val (Val.field 4 rfl fo_26_4 rfl) rfl rfl rfl ?_
  refine QAt.val (Val.load (i := 2) Tryd.isAgg23 rfl rfl rfl) rfl rfl rfl ?_
  refine qM rfl rfl ?_
  refine QAt.idxP hvW Tryd.underlying23 Tryd.sizeOf67 rfl rfl (by omega) (by omega) rfl rfl (fun b12 o13 q14 hq15 hc16 hd17 => ?_)
  have hqe : qk = q14 := by have h8 := hq15; rw [Int.toNat_natCast, hqk] at h8; exact Option.some.inj h8
  subst hqe
  refine QAt.val (Val.field (o13 + 1) rfl fo_67_1 rfl) rfl rfl rfl ?_
  refine QAt.val (Val.loadOld Tryd.isAgg65 rfl hd17 (fun h => by simp [feet] at h)) rfl rfl rfl ?_
  refine QAt.fin ?_
  refine At.callD 0 rfl (fun w hw hr => storeU_t _ _ _ qk.1 qk.2 w d2 (by omega) hr) Tryd.call27 rfl rfl (fun y18 => ?_)
  simp only [sc0, scS]
  refine At.nil ?_
  refine At.blkN ?_
  refine At.thenN ?_
  refine At.region ?_
  refine tM rfl rfl ?_
  first | refine At.val (Val.addI rfl rfl (by omega) (by omega)) rfl rfl rfl ?_ | refine At.val (Val.bin rfl rfl rfl) rfl rfl rfl ?_
  refine tA rfl rfl ?_
  refine tE ?_
  exact At.again (k + 1, y18) (show k + 1 ≤ _ by omega) (by dsimp only; omega) (Sub.cons rfl (Sub.cons rfl (Sub.cons rfl (Sub.cons (congrArg (fun z => some (Value.int IntKind.i64 z)) (by dsimp only; omega)) Sub.nil)))) (by dsimp only; rw [List.take_succ_of_get hqk, devW_snoc])
 ·skip
  try simp only [hasB, isSizeB, Bool.not_eq_true', Bool.not_eq_false', bne_iff_ne, ne_eq, bne_eq_false_iff_eq, beq_iff_eq, beq_eq_false_iff_ne, decide_eq_true_eq, decide_eq_false_iff_not, gt_iff_lt, ge_iff_le] at h5
  refine At.exitC ?_
  refine At.thenX ?_
  refine At.thenX ?_
  refine At.blkX ?_
  refine At.thenN ?_
  refine At.seq ?_
  rw [List.take_of_length_le (by omega)]
  obtain ⟨d1, d2, d3⟩ := devW_rest N WS
  obtain ⟨wd, hwd⟩ : ∃ wd, (devW N WS).ws[16]? = some wd := ⟨_, List.getElem?_eq_getElem (by omega)⟩
  obtain ⟨e1, e2, e3⟩ := devS_rest (N := N) (by omega) WS
  obtain ⟨f1, f2, f3⟩ := linesD_rest (N / 8) 0 (devS N WS)
  refine At.region ?_
  refine tM rfl rfl ?_
  refine At.callD 0 rfl (fun w hw hr => (show DevU _ _ _ _ _ _ _ (devS N WS) _ from (storeD_some (x := 0) hwd) ▸ store_d _ _ _ 16 wd 0 w hwd (by omega) (dead_of d2) hr)) Tryd.call27 rfl rfl (fun y19 => ?_)
  simp only [sc0, scS]
  refine tA rfl rfl ?_
  refine tE ?_
  refine tR ?_
  refine tM rfl rfl ?_
  refine At.val (Val.field 0 rfl fo_28_0 rfl) rfl rfl rfl ?_
  refine At.val (Val.load (i := 1) Tryd.isAgg3 rfl rfl rfl) rfl rfl rfl ?_
  first | refine At.val (Val.mulI rfl rfl (by omega) (by omega)) rfl rfl rfl ?_ | refine At.val (Val.bin rfl rfl rfl) rfl rfl rfl ?_
  refine At.callD 0 rfl (fun w hw hr => (by have h0 := flushAll_d _ _ (devS N WS) 0 (8 * N) (N / 8) w (by omega) ⟨fun h => by omega, fun h => by omega⟩ (by omega) hr; rw [linesE_calm _ _ _ e2, show ((8 * N : Nat) : Int) = 512 * P from by omega] at h0; exact h0)) Tryd.call28 rfl rfl (fun y20 => ?_)
  simp only [sc0, scS]
  refine tA rfl rfl ?_
  refine tE ?_
  refine tR ?_
  refine tM rfl rfl ?_
  refine At.callD 0 rfl (fun w hw hr => fence_d _ _ (linesD 0 (devS N WS) (N / 8)) w (by omega) (dead_of (f2.trans e2)) hr) Tryd.call29 rfl rfl (fun y21 => ?_)
  simp only [sc0, scS]
  refine tA rfl rfl ?_
  refine tE ?_
  refine tR ?_
  refine tM rfl rfl ?_
  refine tM rfl rfl ?_
  refine At.val (Val.bin rfl rfl rfl) rfl rfl rfl ?_
  refine tM rfl rfl ?_
  refine At.yes rfl rfl ?_
  refine tM rfl rfl ?_
  refine At.yes rfl rfl ?_
  refine At.val (Val.bin rfl rfl rfl) rfl rfl rfl ?_
  refine At.val (Val.pickT rfl rfl) rfl rfl rfl ?_
  refine tM rfl rfl ?_
  refine At.yes rfl rfl ?_
  refine tM rfl rfl ?_
  refine At.yes rfl rfl ?_
  refine At.val (Val.bin rfl rfl rfl) rfl rfl rfl ?_
  refine At.val (Val.pickT rfl rfl) rfl rfl rfl ?_
  refine tA rfl rfl ?_
  refine tA rfl rfl ?_
  refine tE ?_
  refine At.retC ?_
  refine At.ret2 (.inl rfl) rfl rfl rfl rfl (fun w hw => ?_)
  exact ⟨_, _, rfl, hw.drop (List.singleton_sublist.2 (List.mem_of_getElem? (i := 0) rfl))⟩
end Go.Proofs.YtpihenmdkoojdaaDoor
set_option linter.unusedVariables false
set_option linter.unusedSimpArgs false
namespace Go.Proofs.YtpihenmdkoojdaaDoor
open Go Go.Wk
theorem growS_le (L : List (Int × Int)) : (growS L).length ≤ L.length + 1 := by
  unfold growS
  cases h : L.getLast? with
  | none => simp
  | some c => simp only [List.length_append, List.length_dropLast, List.length_singleton]; omega
end Go.Proofs.YtpihenmdkoojdaaDoor
set_option linter.unusedVariables false
set_option linter.unusedSimpArgs false
namespace Go.Proofs.YtpihenmdkoojdaaDoor
open Go Go.Wk
theorem tmod_bd (a : Int) {b : Int} (hb : 0 < b) : -b < a.tmod b ∧ a.tmod b < b := by
  rcases Int.le_total 0 a with h | h
  · rw [Int.tmod_eq_emod_of_nonneg h]
    have h1 := Int.emod_nonneg a (b := b) (by omega)
    have h2 := Int.emod_lt_of_pos a hb
    omega
  · have e : a.tmod b = -((-a).tmod b) := by rw [Int.neg_tmod, Int.neg_neg]
    rw [e, Int.tmod_eq_emod_of_nonneg (by omega)]
    have h1 := Int.emod_nonneg (-a) (b := b) (by omega)
    have h2 := Int.emod_lt_of_pos (-a) hb
    omega
end Go.Proofs.YtpihenmdkoojdaaDoor
set_option linter.unusedVariables false
set_option linter.unusedSimpArgs false
namespace Go.Proofs.YtpihenmdkoojdaaDoor
open Go Go.Wk
theorem flushK_arm (τ : Ds) (k f : Nat) : ∀ j, flushK (armD τ k) f j = armD (flushK τ f j) k
  | 0 => rfl
  | j + 1 => by
    unfold flushK
    rw [flushK_arm τ k f j]
    show (match (flushK τ f j).ws[f + j]? with | some w => setD (armD (flushK τ f j) k) (f + j) (markW w) | none => armD (flushK τ f j) k) = _
    cases (flushK τ f j).ws[f + j]? <;> rfl
theorem stepA_arm {σ : Ds} {a : Ac} (k : Nat) (h : AcOk σ.ws.length a) : stepA (armD σ (k + 1)) a = armD (stepA σ a) k := by
  cases a with
  | st j x =>
    have hj : j < σ.ws.length := h
    have e : σ.ws[j]? = some (σ.ws[j]'hj) := List.getElem?_eq_getElem hj
    show storeD (armD σ (k + 1)) j x = armD (storeD σ j x) k
    unfold storeD
    show (match σ.ws[j]? with | some w => setD (stepD (armD σ (k + 1))) j (pushW w x) | none => armD σ (k + 1)) = armD (match σ.ws[j]? with | some w => setD (stepD σ) j (pushW w x) | none => σ) k
    rw [e]
    rfl
  | fl l => exact flushK_arm (stepD σ) k (8 * l) 8
  | fe => rfl
theorem actsE_arm : ∀ (l : List Ac) (σ : Ds) (k : Nat), σ.armed = false → (∀ a ∈ l, AcOk σ.ws.length a) → actsE (armD σ k) l = if l.length ≤ k then (0, armD (actsE σ l).2 (k - l.length)) else (13, armD (actsE σ (l.take k)).2 0)
  | [], σ, k, _, _ => (if_pos (Nat.zero_le k) : (if 0 ≤ k then ((0 : Int), armD σ k) else (13, armD (actsE σ (List.take k [])).2 0)) = _).symm
  | a :: l, σ, 0, _, _ => by
    rw [if_neg (by rw [List.length_cons]; omega), actsE_dead (by rfl)]; rfl
  | a :: l, σ, k + 1, ha, h => by
    have h0 := h a (List.mem_cons_self ..)
    obtain ⟨_, h2, h3⟩ := stepA_rest h0
    have ih := actsE_arm l (stepA σ a) k (h2.trans ha) (fun b hb => by rw [h3]; exact h b (List.mem_cons_of_mem _ hb))
    rw [actsE_live (show deadB (armD σ (k + 1)) = false by unfold deadB armD; simp), stepA_arm k h0, ih, actsE_live (dead_of ha), List.take_succ_cons, actsE_live (dead_of ha), List.length_cons]
    by_cases hk : l.length ≤ k
    · rw [if_pos hk, if_pos (by omega), show k + 1 - (l.length + 1) = k - l.length by omega]
    · rw [if_neg hk, if_neg (by omega)]
/-- A word that nobody stores in stays as it is. -/
theorem calm_acts {j : Nat} {v : BitVec 64} : ∀ (l : List Ac) (σ : Ds), (∀ k x, Ac.st k x ∈ l → k ≠ j) → σ.ws[j]? = some ⟨v, [], 0⟩ → (actsE σ l).2.ws[j]? = some ⟨v, [], 0⟩
  | [], σ, _, h => h
  | a :: l, σ, hs, h => by
    cases hd : deadB σ with
    | true => rw [actsE_dead hd]; exact h
    | false =>
      rw [actsE_live hd]
      refine calm_acts l _ (fun k x hm => hs k x (List.mem_cons_of_mem _ hm)) ?_
      cases a with
      | st k x =>
        show (storeD σ k x).ws[j]? = _
        unfold storeD
        cases hk : σ.ws[k]? with
        | none => exact h
        | some w => exact setD_at (σ := stepD σ) h (hs k x (List.mem_cons_self ..))
      | fl l' =>
        obtain ⟨m, h1, h2, h3⟩ := flushK_at (σ := stepD σ) (f := 8 * l') h 8
        have hm : m = 0 := by
          by_cases hin : 8 * l' ≤ j ∧ j < 8 * l' + 8
          · exact h2 hin.1 hin.2
          · exact h3 hin
        subst hm
        exact h1
      | fe =>
        show (fenceD (stepD σ)).ws[j]? = _
        rw [fenceD_at (σ := stepD σ) h]
        exact congrArg some (if_pos rfl)
theorem stA_mem : ∀ (xs : List (BitVec 64)) (K k : Nat) (x : BitVec 64), Ac.st k x ∈ stA K xs → K ≤ k ∧ k < K + xs.length
  | [], K, k, x, h => by cases h
  | y :: xs, K, k, x, h => by
    rcases List.mem_cons.1 h with h | h
    · injection h with h1 h2
      subst h1
      rw [List.length_cons]; omega
    · have := stA_mem xs (K + 1) k x h
      rw [List.length_cons]; omega
theorem flA_mem : ∀ (c l k : Nat) (x : BitVec 64), ¬ Ac.st k x ∈ flA l c
  | 0, l, k, x, h => by cases h
  | c + 1, l, k, x, h => by
    rcases List.mem_cons.1 h with h | h
    · cases h
    · exact flA_mem c (l + 1) k x h
theorem recA_mem {b : List UInt8} {k : Nat} {x : BitVec 64} (h : Ac.st k x ∈ recA b) : 128 ≤ k ∧ k < 128 + b.length / 8 := by
  unfold recA recS recF at h
  rcases List.mem_append.1 h with h | h
  · have := stA_mem _ _ _ _ h
    rwa [wordsL_length] at this
  · rcases List.mem_append.1 h with h | h
    · exact absurd h (flA_mem _ _ _ _)
    · rw [List.mem_singleton] at h; cases h
theorem cleanA_mem {t : BitVec 32} {k : Nat} {x : BitVec 64} (h : Ac.st k x ∈ cleanA t) : k = 16 := by
  unfold cleanA at h
  rcases List.mem_cons.1 h with h | h
  · injection h
  · rcases List.mem_cons.1 h with h | h
    · cases h
    · rw [List.mem_singleton] at h; cases h
theorem pick_one (v s : BitVec 64) (c : Int) : (if c = 0 then v else ([s][(c - 1).toNat]?).getD v) = v ∨ (if c = 0 then v else ([s][(c - 1).toNat]?).getD v) = s := by
  by_cases h : c = 0
  · rw [if_pos h]; exact .inl rfl
  · rw [if_neg h]
    generalize (c - 1).toNat = z
    match z with
    | 0 => exact .inr rfl
    | z + 1 => exact .inl rfl
theorem pickC_one {cs : List Int} {K : Nat} {v s : BitVec 64} {m : Nat} : pickC cs K ⟨v, [s], m⟩ = v ∨ pickC cs K ⟨v, [s], m⟩ = s := pick_one v s _
theorem wbytes_ext {xs ys : List (BitVec 64)} {j r : Nat} (h : xs[j]? = ys[j]?) (hr : r < 8) : (wbytes xs)[8 * j + r]? = (wbytes ys)[8 * j + r]? := by
  cases hx : xs[j]? with
  | none =>
    have h1 := List.getElem?_eq_none_iff.1 hx
    have h2 := List.getElem?_eq_none_iff.1 (h.symm.trans hx)
    rw [List.getElem?_eq_none (by rw [wbytes_length]; omega), List.getElem?_eq_none (by rw [wbytes_length]; omega)]
  | some x =>
    have e := (wbytes_take hx).trans (wbytes_take (h.symm.trans hx)).symm
    have := congrArg (fun l : List UInt8 => l[r]?) e
    simp only [List.getElem?_take, List.getElem?_drop] at this
    rwa [if_pos hr, if_pos hr] at this
theorem cut_eff {σ : Ds} {vs : List (BitVec 64)} {L : List (Int × Int)} {p i c : Int} (hws : σ.ws = mkC vs) (ha : σ.armed = false) (hg : GoodSup p i c) (hl : (8 * vs.length : Nat) = 512 * p) (hsp : SpOk L) (h16 : vs[16]? = some 0) :
    ∃ n : Nat, 8 ≤ n ∧ n ≤ 160 ∧ (saveE σ L).1 = true ∧ (saveE σ L).2.1 = 0 ∧ (saveE σ L).2.2.steps = σ.steps + n ∧
      ∀ k, k ≤ n → (saveE (armD σ k) L).1 = decide (k = n) ∧ (k = n → (saveE (armD σ k) L).2.1 = 0) ∧ (k ≠ n → (saveE (armD σ k) L).2.1 = 13) ∧
        ∀ cs, ∃ Z, Z = picked (saveE (armD σ k) L).2.2.ws (pkC (saveE (armD σ k) L).2.2.ws cs) ∧ Z.length = vs.length ∧ (∀ x, x < 8 * vs.length → ¬ (128 ≤ x ∧ x < 136) → ¬ (1024 ≤ x ∧ x < 1048 + 4 * L.length + 4) → (wbytes vs)[x]? = (wbytes Z)[x]?) ∧
          (restE (wbytes Z) p i c (4 + i / 8) L = 130 ∨ restE (wbytes Z) p i c (4 + i / 8) L = 0) ∧ (k = n → restE (wbytes Z) p i c (4 + i / 8) L = 0) ∧ (k + 2 < n → restE (wbytes Z) p i c (4 + i / 8) L = 130) := by
  have hg2 := hg
  unfold GoodSup at hg2
  obtain ⟨t, ht⟩ : ∃ t, t = stampD σ := ⟨_, rfl⟩
  obtain ⟨e1, e2, e3, e4, e5⟩ := save_eff hws ha (by omega) hsp.1 hsp.2
  have e5 := e5 h16
  have hz : t ≠ 0 := fun e => nextT_0 (wbytes (viewWs σ.ws)) (by show (stampD σ).toNat = 0; rw [← ht, e]; rfl)
  have hq : GoodSv t L := ⟨fun e => hz (BitVec.eq_of_toNat_eq e), hsp.2, hsp.1⟩
  rw [← ht] at e3 e5
  obtain ⟨b, hb⟩ : ∃ b, b = svB t L := ⟨_, rfl⟩
  obtain ⟨hb1, hb8⟩ := svB_le (t := t) hsp.2
  obtain ⟨c1, c2⟩ := cntL_svB t L hsp.2
  have hbl := svB_length t L
  rw [← hb] at e5 hb1 hb8 c1 c2 hbl
  have hc1 : 1 ≤ cntL 1024 b.length := by unfold cntL; rw [if_neg (by omega)]; omega
  have hwl : σ.ws.length = vs.length := by rw [hws, mkC_length]
  have hrl : (recA b).length = b.length / 8 + cntL 1024 b.length + 1 := by unfold recA recS recF; rw [List.length_append, List.length_append, stA_len, flA_len, wordsL_length, List.length_singleton]; omega
  have hn16 : nowAt σ 16 = 0 := nowAt_mkC hws h16
  have hA : ∀ τ : Ds, τ.ws = σ.ws → saveA τ L = recA b ++ cleanA t := fun τ hτ => by
    have h1 : nowAt τ 16 = 0 := by unfold nowAt; rw [hτ]; exact hn16
    have h2 : stampD τ = t := by rw [ht]; unfold stampD; rw [hτ]
    unfold saveA saveF
    rw [if_pos h1, h2, ← hb]; rfl
  have hAok : ∀ a ∈ recA b ++ cleanA t, AcOk σ.ws.length a := by
    intro a h
    rcases List.mem_append.1 h with h | h
    · unfold recA recS recF at h
      rcases List.mem_append.1 h with h | h
      · exact stA_ok _ 128 (by rw [wordsL_length]; omega) a h
      rcases List.mem_append.1 h with h | h
      · exact flA_ok _ 16 (by omega) a h
      · rw [List.mem_singleton.1 h]; trivial
    · exact cleanA_ok t (by omega) a h
  have hAl : (recA b ++ cleanA t).length = b.length / 8 + cntL 1024 b.length + 4 := by rw [List.length_append, hrl]; rfl
  have hS : ∀ τ : Ds, τ.ws = σ.ws → saveE τ L = (decide ((actsE τ (recA b ++ cleanA t)).1 = 0), (actsE τ (recA b ++ cleanA t)).1, (actsE τ (recA b ++ cleanA t)).2) := fun τ hτ => by
    have h249 := hsp.2
    unfold saveE
    rw [if_neg (Classical.not_not.2 hsp.1), if_neg (by rw [hτ]; omega), if_neg (by omega), hA τ hτ]
  refine ⟨b.length / 8 + cntL 1024 b.length + 4, by omega, by omega, e1, e2, by omega, fun k hk => ?_⟩
  have hSk := hS (armD σ k) rfl
  rw [actsE_arm _ σ k ha hAok, hAl] at hSk
  have hW : (saveE (armD σ k) L).2.2.ws = (actsE σ ((recA b ++ cleanA t).take k)).2.ws := by
    rw [hSk]
    by_cases hkn : b.length / 8 + cntL 1024 b.length + 4 ≤ k
    · rw [if_pos hkn, List.take_of_length_le (by omega)]; rfl
    · rw [if_neg hkn]; rfl
  refine ⟨?_, fun e => ?_, fun e => ?_, fun cs => ⟨_, rfl, ?_⟩⟩
  · rw [hSk]
    by_cases hkn : k = b.length / 8 + cntL 1024 b.length + 4
    · rw [if_pos (by omega), decide_eq_true hkn]; rfl
    · rw [if_neg (by omega), decide_eq_false hkn]; rfl
  · rw [hSk, if_pos (by omega)]
  · rw [hSk, if_neg (by omega)]
  rw [hW]
  obtain ⟨W, hWd⟩ : ∃ W, W = (actsE σ ((recA b ++ cleanA t).take k)).2.ws := ⟨_, rfl⟩
  rw [← hWd]
  have hWl : W.length = vs.length := by rw [hWd, (actsE_rest _ σ (fun a h => hAok a (List.mem_of_mem_take h))).1, hwl]
  obtain ⟨Z, hZ⟩ : ∃ Z, Z = picked W (pkC W cs) := ⟨_, rfl⟩
  rw [← hZ]
  have hZl : Z.length = vs.length := by rw [hZ, picked_length, hWl]
  have vat : ∀ {j : Nat}, j < vs.length → σ.ws[j]? = some ⟨vs.getD j 0, [], 0⟩ := fun {j} hj => by
    rw [hws]; exact mkC_at (by rw [List.getD_eq_getElem?_getD, List.getElem?_eq_getElem hj]; rfl)
  have vat' : ∀ {j : Nat}, j < vs.length → vs[j]? = some (vs.getD j 0) := fun {j} hj => by rw [List.getD_eq_getElem?_getD, List.getElem?_eq_getElem hj]; rfl
  have out : ∀ j, j < vs.length → j ≠ 16 → ¬ (128 ≤ j ∧ j < 128 + b.length / 8) → Z[j]? = vs[j]? := fun j hj h1 h2 => by
    have hc := calm_acts ((recA b ++ cleanA t).take k) σ (j := j) (v := vs.getD j 0) (fun k' x hm => by
      rcases List.mem_append.1 (List.mem_of_mem_take hm) with hm | hm
      · have := recA_mem hm; omega
      · have := cleanA_mem hm; omega) (vat hj)
    rw [← hWd] at hc
    rw [hZ, picked_old hc rfl, vat' hj]
  have key : (k ≤ b.length / 8 + cntL 1024 b.length + 1 → Z[16]? = some 0) ∧ (b.length / 8 + cntL 1024 b.length + 1 < k → HasRec Z t L ∧ (Z[16]? = some 0 ∨ Z[16]? = some (sealC t)) ∧ (k = b.length / 8 + cntL 1024 b.length + 4 → Z[16]? = some (sealC t))) := by
    refine ⟨fun hkm => ?_, fun hkm => ?_⟩
    · have hc := calm_acts ((recA b ++ cleanA t).take k) σ (j := 16) (v := 0) (fun k' x hm => by
        rw [List.take_append_of_le_length (by omega)] at hm
        have := recA_mem (List.mem_of_mem_take hm); omega) (by rw [hws]; exact mkC_at h16)
      rw [← hWd] at hc
      rw [hZ, picked_old hc rfl]
    · obtain ⟨r, rfl⟩ : ∃ r, k = (recA b).length + r := ⟨k - (recA b).length, by omega⟩
      have hr : 1 ≤ r ∧ r ≤ 3 := by omega
      rw [List.take_append, List.take_of_length_le (by omega), show (recA b).length + r - (recA b).length = r by omega] at hWd
      obtain ⟨a1, a2, a3, _⟩ := block_eff (k := 128) (l := 16) (c := cntL 1024 b.length) (xs := wordsL b (b.length / 8)) hws ha (by rw [wordsL_length]; omega) (by omega) (by rw [wordsL_length]; omega) (by omega)
      rw [← recA_block] at a1 a2 a3
      rw [actsE_go a1] at hWd
      generalize hR : (actsE σ (recA b)).2 = σR at a2 a3 hWd
      obtain ⟨vR, hvR⟩ : ∃ vR, vR = putV vs 128 (wordsL b (b.length / 8)) := ⟨_, rfl⟩
      rw [← hvR] at a2
      have hvRl : vR.length = vs.length := by rw [hvR, putV_length]
      have hR16 : vR[16]? = some 0 := by rw [hvR, putV_out (by omega)]; exact h16
      refine ⟨fun j hj => ?_, ?_⟩
      · rw [← hb] at hj ⊢
        have hvj : vR[128 + j]? = some (wdA b (8 * j)) := by rw [hvR]; exact putV_in (wordsL_at hj) (by rw [wordsL_length]; omega)
        have hc := calm_acts ((cleanA t).take r) σR (j := 128 + j) (v := wdA b (8 * j)) (fun k' x hm => by have := cleanA_mem (List.mem_of_mem_take hm); omega) (by rw [a2]; exact mkC_at hvj)
        rw [← hWd] at hc
        rw [hZ, picked_old hc rfl]
      · have s16 : (storeD σR 16 (sealC t)).ws[16]? = some ⟨0, [sealC t], 0⟩ := by
          have h0 : σR.ws[16]? = some ⟨0, [], 0⟩ := by rw [a2]; exact mkC_at hR16
          rw [storeD_some h0]; exact setD_self (σ := stepD σR) h0
        have sd := storeD_rest (σ := σR) (sealC t) (show 16 < σR.ws.length by rw [a2, mkC_length]; omega)
        have two : ∀ m, W[16]? = some ⟨0, [sealC t], m⟩ → Z[16]? = some 0 ∨ Z[16]? = some (sealC t) := fun m hm => by
          obtain ⟨K, hK⟩ := dk_of hm (by simp)
          rw [hZ, picked_new hK, pkC_at hm]
          rcases pickC_one (cs := cs) (K := K) (v := 0) (s := sealC t) (m := m) with h | h
          · exact .inl (congrArg some h)
          · exact .inr (congrArg some h)
        have r123 : r = 1 ∨ r = 2 ∨ r = 3 := by omega
        rcases r123 with rfl | rfl | rfl
        · have e : W[16]? = some ⟨0, [sealC t], 0⟩ := by
            rw [hWd]
            show (actsE σR [.st 16 (sealC t)]).2.ws[16]? = _
            rw [actsE_live (dead_of a3)]; exact s16
          exact ⟨two _ e, fun h => by omega⟩
        · obtain ⟨m, f1, _⟩ := flushK_at (σ := stepD (storeD σR 16 (sealC t))) (f := 8 * 2) s16 8
          have e : W[16]? = some ⟨0, [sealC t], m⟩ := by
            rw [hWd]
            show (actsE σR [.st 16 (sealC t), .fl 2]).2.ws[16]? = _
            rw [actsE_live (dead_of a3)]
            show (actsE (storeD σR 16 (sealC t)) [.fl 2]).2.ws[16]? = _
            rw [actsE_live (dead_of (sd.2.1.trans a3))]; exact f1
          exact ⟨two _ e, fun h => by omega⟩
        · obtain ⟨b1, b2, b3, _⟩ := block_eff (k := 16) (l := 2) (c := 1) (xs := [sealC t]) a2 a3 (by simp only [List.length_singleton]; omega) (by omega) (by simp only [List.length_singleton]; omega) (by omega)
          have e : Z[16]? = some (sealC t) := by
            have hW2 : W = mkC (putV vR 16 [sealC t]) := by rw [hWd]; exact b2
            rw [hZ, hW2, mkC_pick]
            exact putV_in (k := 16) (i := 0) rfl (by simp only [List.length_singleton]; omega)
          exact ⟨.inr e, fun _ => e⟩
  obtain ⟨key1, key2⟩ := key
  have r0 : Z[16]? = some 0 → restE (wbytes Z) p i c (4 + i / 8) L = 130 := fun h => rest_none hg (by omega) h
  have r1 : HasRec Z t L → Z[16]? = some (sealC t) → restE (wbytes Z) p i c (4 + i / 8) L = 0 := fun h1 h2 => (rest_img hg (by omega) h2 hz h1 hq).trans (if_pos rfl)
  refine ⟨hZl, fun x hx n1 n2 => ?_, ?_, fun e => ?_, fun e => r0 (key1 (by omega))⟩
  · have := wbytes_ext (j := x / 8) (r := x % 8) (out (x / 8) (by omega) (by omega) (by omega)) (by omega)
    rw [show 8 * (x / 8) + x % 8 = x by omega] at this
    exact this.symm
  · rcases Nat.lt_or_ge (b.length / 8 + cntL 1024 b.length + 1) k with h | h
    · obtain ⟨h1, h2, _⟩ := key2 h
      rcases h2 with h2 | h2
      · exact .inl (r0 h2)
      · exact .inr (r1 h1 h2)
    · exact .inl (r0 (key1 h))
  · obtain ⟨h1, _, h3⟩ := key2 (by omega)
    exact r1 h1 (h3 e)
end Go.Proofs.YtpihenmdkoojdaaDoor
set_option linter.unusedVariables false
set_option linter.unusedSimpArgs false
namespace Go.Proofs.YtpihenmdkoojdaaDoor
open Go Go.Wk
theorem eqNB (k n : Nat) : (!(decide (k = n) == ((k : Int) == (n : Int)))) = false := by
  by_cases h : k = n
  · subst h; simp
  · rw [decide_eq_false h, show ((k : Int) == (n : Int)) = false from beq_eq_false_iff_ne.2 (by omega)]; rfl
theorem besides_p (v u : Value) (X Y : List UInt8) (m : Nat) (w : World) (hv : RdB w v X) (hu : RdB w u Y) (hXl : X.length ≤ 140737488355328) (hl : X.length = Y.length) (hm : m ≤ 1000) (hXY : ∀ x, x < X.length → ¬ (128 ≤ x ∧ x < 136) → ¬ (1024 ≤ x ∧ x < 1048 + 4 * m + 4) → X[x]? = Y[x]?) :
    PureC Tryd.prog 24 [v, u, .int .i64 (m : Int)] (.bool true) w := by
 refine enter0 Tryd.func24 rfl Tryd.ntmps24 rfl ?_
 simp only [envOf]
 refine tR ?_
 refine tA rfl rfl ?_
 refine tE ?_
 refine At.seq ?_
 refine tR ?_
 refine tM rfl rfl ?_
 refine At.val (Val.lenRd hv Tryd.underlying38 rfl) rfl rfl rfl ?_
 refine tM rfl rfl ?_
 refine At.val (Val.lenRd hu Tryd.underlying38 rfl) rfl rfl rfl ?_
 refine At.val (Val.bin rfl rfl rfl) rfl rfl rfl ?_
 refine tE ?_
 refine At.cond rfl (fun h1 => ?_) (fun h1 => ?_)
 ·skip
  try simp only [hasB, isSizeB, Bool.not_eq_true', Bool.not_eq_false', bne_iff_ne, ne_eq, bne_eq_false_iff_eq, beq_iff_eq, beq_eq_false_iff_ne, decide_eq_true_eq, decide_eq_false_iff_not, gt_iff_lt, ge_iff_le] at h1
  omega
 ·skip
  try simp only [hasB, isSizeB, Bool.not_eq_true', Bool.not_eq_false', bne_iff_ne, ne_eq, bne_eq_false_iff_eq, beq_iff_eq, beq_eq_false_iff_ne, decide_eq_true_eq, decide_eq_false_iff_not, gt_iff_lt, ge_iff_le] at h1
  refine At.skipC ?_
  refine At.thenN ?_
  refine At.seq ?_
  refine tR ?_
  refine tA rfl rfl ?_
  refine tE ?_
  refine At.block ?_
  skip
  refine At.loop (σ := Nat) (fun k => k ≤ X.length) (fun k => [(0, v), (1, u), (2, .int .i64 (m : Int)), (7, .int .i64 (k : Int))]) (fun k => []) (fun k => X.length - k) 0 (Nat.zero_le _) (Sub.cons rfl (Sub.cons rfl (Sub.cons rfl (Sub.cons rfl Sub.nil)))) (List.Perm.refl _) ?_
  intro k hs
  refine At.seq ?_
  refine tR ?_
  refine tM rfl rfl ?_
  refine tM rfl rfl ?_
  refine At.val (Val.lenRd hv Tryd.underlying38 rfl) rfl rfl rfl ?_
  refine At.val (Val.bin rfl rfl rfl) rfl rfl rfl ?_
  refine tE ?_
  refine At.cond rfl (fun h2 => ?_) (fun h2 => ?_)
  ·skip
   try simp only [hasB, isSizeB, Bool.not_eq_true', Bool.not_eq_false', bne_iff_ne, ne_eq, bne_eq_false_iff_eq, beq_iff_eq, beq_eq_false_iff_ne, decide_eq_true_eq, decide_eq_false_iff_not, gt_iff_lt, ge_iff_le] at h2
   refine At.skipC ?_
   refine At.thenN ?_
   refine At.seq ?_
   refine At.block ?_
   refine tR ?_
   refine At.weaken [(0, _), (1, _), (2, _), (7, _), (15, _), (16, _), (17, _), (18, _)] (Sub.cons rfl (Sub.cons rfl (Sub.cons rfl (Sub.cons rfl (Sub.cons rfl (Sub.cons rfl (Sub.cons rfl (Sub.cons rfl Sub.nil)))))))) ?_
   refine At.boolMeet 6 26 (decide (128 ≤ k ∧ k < 136)) ?_ ?_
   ·skip
    simp only [List.take_succ_cons, List.take_zero]
    refine tM rfl rfl ?_
    refine At.val (Val.bin rfl rfl rfl) rfl rfl rfl ?_
    refine tM rfl rfl ?_
    refine At.split (t := 23) rfl (fun h3 => ?_) (fun h3 => ?_)
    ·skip
     try simp only [hasB, isSizeB, Bool.not_eq_true', Bool.not_eq_false', bne_iff_ne, ne_eq, bne_eq_false_iff_eq, beq_iff_eq, beq_eq_false_iff_ne, decide_eq_true_eq, decide_eq_false_iff_not, gt_iff_lt, ge_iff_le] at h3
     refine At.yes rfl rfl ?_
     refine tM rfl rfl ?_
     refine At.yes rfl rfl ?_
     refine At.val (Val.bin rfl rfl rfl) rfl rfl rfl ?_
     refine At.val (Val.pickT rfl rfl) rfl rfl rfl ?_
     refine At.nil ?_
     exact At.boolEnd rfl (by apply Bool.eq_iff_iff.2; (simp only [decide_eq_true_eq, Bool.false_eq_true, false_iff, true_iff, iff_true, iff_false, gt_iff_lt, ge_iff_le, beq_iff_eq]) <;> omega) (by repeat (first | exact Sub.nil | refine Sub.cons rfl ?_))
    ·skip
     try simp only [hasB, isSizeB, Bool.not_eq_true', Bool.not_eq_false', bne_iff_ne, ne_eq, bne_eq_false_iff_eq, beq_iff_eq, beq_eq_false_iff_ne, decide_eq_true_eq, decide_eq_false_iff_not, gt_iff_lt, ge_iff_le] at h3
     refine At.no rfl rfl rfl rfl ?_
     refine At.no rfl rfl rfl rfl ?_
     refine At.val (Val.pickF rfl rfl) rfl rfl rfl ?_
     refine At.nil ?_
     exact At.boolEnd rfl (by apply Bool.eq_iff_iff.2; (simp only [decide_eq_true_eq, Bool.false_eq_true, false_iff, true_iff, iff_true, iff_false, gt_iff_lt, ge_iff_le, beq_iff_eq]) <;> omega) (by repeat (first | exact Sub.nil | refine Sub.cons rfl ?_))
   ·skip
    simp only [List.drop_succ_cons, List.drop_zero]
    refine tA rfl rfl ?_
    refine tE ?_
    refine tR ?_
    refine At.weaken [(0, _), (1, _), (2, _), (7, _), (15, _), (16, _), (17, _), (18, _), (26, _), (8, _)] (Sub.cons rfl (Sub.cons rfl (Sub.cons rfl (Sub.cons rfl (Sub.cons rfl (Sub.cons rfl (Sub.cons rfl (Sub.cons rfl (Sub.cons rfl (Sub.cons rfl Sub.nil)))))))))) ?_
    refine At.boolMeet 10 36 (decide (1024 ≤ k ∧ k < 1048 + 4 * m + 4)) ?_ ?_
    ·skip
     simp only [List.take_succ_cons, List.take_zero]
     refine tM rfl rfl ?_
     refine At.val (Val.bin rfl rfl rfl) rfl rfl rfl ?_
     refine tM rfl rfl ?_
     refine At.split (t := 29) rfl (fun h4 => ?_) (fun h4 => ?_)
     ·skip
      try simp only [hasB, isSizeB, Bool.not_eq_true', Bool.not_eq_false', bne_iff_ne, ne_eq, bne_eq_false_iff_eq, beq_iff_eq, beq_eq_false_iff_ne, decide_eq_true_eq, decide_eq_false_iff_not, gt_iff_lt, ge_iff_le] at h4
      refine At.yes rfl rfl ?_
      refine tM rfl rfl ?_
      refine At.yes rfl rfl ?_
      refine tM rfl rfl ?_
      refine At.yes rfl rfl ?_
      first | refine At.val (Val.mulI rfl rfl (by omega) (by omega)) rfl rfl rfl ?_ | refine At.val (Val.bin rfl rfl rfl) rfl rfl rfl ?_
      refine At.yes rfl rfl ?_
      first | refine At.val (Val.addI rfl rfl (by omega) (by omega)) rfl rfl rfl ?_ | refine At.val (Val.bin rfl rfl rfl) rfl rfl rfl ?_
      refine At.yes rfl rfl ?_
      first | refine At.val (Val.addI rfl rfl (by omega) (by omega)) rfl rfl rfl ?_ | refine At.val (Val.bin rfl rfl rfl) rfl rfl rfl ?_
      refine At.yes rfl rfl ?_
      refine At.val (Val.bin rfl rfl rfl) rfl rfl rfl ?_
      refine At.val (Val.pickT rfl rfl) rfl rfl rfl ?_
      refine At.nil ?_
      exact At.boolEnd rfl (by apply Bool.eq_iff_iff.2; (simp only [decide_eq_true_eq, Bool.false_eq_true, false_iff, true_iff, iff_true, iff_false, gt_iff_lt, ge_iff_le, beq_iff_eq]) <;> omega) (by repeat (first | exact Sub.nil | refine Sub.cons rfl ?_))
     ·skip
      try simp only [hasB, isSizeB, Bool.not_eq_true', Bool.not_eq_false', bne_iff_ne, ne_eq, bne_eq_false_iff_eq, beq_iff_eq, beq_eq_false_iff_ne, decide_eq_true_eq, decide_eq_false_iff_not, gt_iff_lt, ge_iff_le] at h4
      refine At.no rfl rfl rfl rfl ?_
      refine At.no rfl rfl rfl rfl ?_
      refine At.no rfl rfl rfl rfl ?_
      refine At.no rfl rfl rfl rfl ?_
      refine At.no rfl rfl rfl rfl ?_
      refine At.no rfl rfl rfl rfl ?_
      refine At.val (Val.pickF rfl rfl) rfl rfl rfl ?_
      refine At.nil ?_
      exact At.boolEnd rfl (by apply Bool.eq_iff_iff.2; (simp only [decide_eq_true_eq, Bool.false_eq_true, false_iff, true_iff, iff_true, iff_false, gt_iff_lt, ge_iff_le, beq_iff_eq]) <;> omega) (by repeat (first | exact Sub.nil | refine Sub.cons rfl ?_))
    ·skip
     simp only [List.drop_succ_cons, List.drop_zero]
     refine tA rfl rfl ?_
     refine tE ?_
     refine At.seq ?_
     refine At.quiet rfl (by decide +kernel) ?_
     refine qM rfl rfl ?_
     refine qM rfl rfl ?_
     refine QAt.idxB hv Tryd.underlying38 Tryd.sizeOf5 rfl rfl (by omega) (by omega) rfl rfl (fun b5 o6 q7 hq8 hl9 hc10 => ?_)
     refine QAt.val (Val.loadOld Tryd.isAgg5 rfl hc10 (fun h => h)) rfl rfl rfl ?_
     refine qM rfl rfl ?_
     refine qM rfl rfl ?_
     refine QAt.idxB hu Tryd.underlying38 Tryd.sizeOf5 rfl rfl (by omega) (by omega) rfl rfl (fun b11 o12 q13 hq14 hl15 hc16 => ?_)
     refine QAt.val (Val.loadOld Tryd.isAgg5 rfl hc16 (fun h => h)) rfl rfl rfl ?_
     have e8 := hXY k (by omega)
     have hx8 := hq8
     have hy8 := hq14
     rw [Int.toNat_natCast] at hx8 hy8
     rw [hx8, hy8] at e8
     have e9 : ¬ (128 ≤ k ∧ k < 136) → ¬ (1024 ≤ k ∧ k < 1048 + 4 * m + 4) → ((q7.toNat : Int)) = q13.toNat := fun a b => congrArg (fun z : UInt8 => (z.toNat : Int)) (Option.some.inj (e8 a b))
     refine QAt.val (Val.bin rfl rfl rfl) rfl rfl rfl ?_
     refine qM rfl rfl ?_
     refine QAt.split (t := 46) rfl (fun h17 => ?_) (fun h17 => ?_)
     ·skip
      try simp only [hasB, isSizeB, Bool.not_eq_true', Bool.not_eq_false', bne_iff_ne, ne_eq, bne_eq_false_iff_eq, beq_iff_eq, beq_eq_false_iff_ne, decide_eq_true_eq, decide_eq_false_iff_not, gt_iff_lt, ge_iff_le] at h17
      refine QAt.yes rfl rfl ?_
      refine qM rfl rfl ?_
      refine QAt.yes rfl rfl ?_
      refine QAt.val (Val.not rfl) rfl rfl rfl ?_
      refine QAt.val (Val.pickT rfl rfl) rfl rfl rfl ?_
      refine qM rfl rfl ?_
      refine QAt.split (t := 50) rfl (fun h18 => ?_) (fun h18 => ?_)
      ·skip
       try simp only [hasB, isSizeB, Bool.not_eq_true', Bool.not_eq_false', bne_iff_ne, ne_eq, bne_eq_false_iff_eq, beq_iff_eq, beq_eq_false_iff_ne, decide_eq_true_eq, decide_eq_false_iff_not, gt_iff_lt, ge_iff_le] at h18
       refine QAt.yes rfl rfl ?_
       refine qM rfl rfl ?_
       refine QAt.yes rfl rfl ?_
       refine QAt.val (Val.not rfl) rfl rfl rfl ?_
       refine QAt.val (Val.pickT rfl rfl) rfl rfl rfl ?_
       refine QAt.fin ?_
       refine At.thenN ?_
       refine At.cond rfl (fun h19 => ?_) (fun h19 => ?_)
       ·skip
        try simp only [hasB, isSizeB, Bool.not_eq_true', Bool.not_eq_false', bne_iff_ne, ne_eq, bne_eq_false_iff_eq, beq_iff_eq, beq_eq_false_iff_ne, decide_eq_true_eq, decide_eq_false_iff_not, gt_iff_lt, ge_iff_le] at h19
        omega
       ·skip
        try simp only [hasB, isSizeB, Bool.not_eq_true', Bool.not_eq_false', bne_iff_ne, ne_eq, bne_eq_false_iff_eq, beq_iff_eq, beq_eq_false_iff_ne, decide_eq_true_eq, decide_eq_false_iff_not, gt_iff_lt, ge_iff_le] at h19
        refine At.skipC ?_
        refine At.blkN ?_
        refine At.thenN ?_
        refine At.region ?_
        refine tM rfl rfl ?_
        first | refine At.val (Val.addI rfl rfl (by omega) (by omega)) rfl rfl rfl ?_ | refine At.val (Val.bin rfl rfl rfl) rfl rfl rfl ?_
        refine tA rfl rfl ?_
        refine tE ?_
        exact At.again (k + 1) (show k + 1 ≤ _ by omega) (by omega) (Sub.cons rfl (Sub.cons rfl (Sub.cons rfl (Sub.cons (congrArg (fun z => some (Value.int IntKind.i64 z)) (by omega)) Sub.nil)))) (List.Perm.refl _)
      ·skip
       try simp only [hasB, isSizeB, Bool.not_eq_true', Bool.not_eq_false', bne_iff_ne, ne_eq, bne_eq_false_iff_eq, beq_iff_eq, beq_eq_false_iff_ne, decide_eq_true_eq, decide_eq_false_iff_not, gt_iff_lt, ge_iff_le] at h18
       refine QAt.no rfl rfl rfl rfl ?_
       refine QAt.no rfl rfl rfl rfl ?_
       refine QAt.val (Val.pickF rfl rfl) rfl rfl rfl ?_
       refine QAt.fin ?_
       refine At.thenN ?_
       refine At.condF rfl ?_
       refine At.skipC ?_
       refine At.blkN ?_
       refine At.thenN ?_
       refine At.region ?_
       refine tM rfl rfl ?_
       first | refine At.val (Val.addI rfl rfl (by omega) (by omega)) rfl rfl rfl ?_ | refine At.val (Val.bin rfl rfl rfl) rfl rfl rfl ?_
       refine tA rfl rfl ?_
       refine tE ?_
       exact At.again (k + 1) (show k + 1 ≤ _ by omega) (by omega) (Sub.cons rfl (Sub.cons rfl (Sub.cons rfl (Sub.cons (congrArg (fun z => some (Value.int IntKind.i64 z)) (by omega)) Sub.nil)))) (List.Perm.refl _)
     ·skip
      try simp only [hasB, isSizeB, Bool.not_eq_true', Bool.not_eq_false', bne_iff_ne, ne_eq, bne_eq_false_iff_eq, beq_iff_eq, beq_eq_false_iff_ne, decide_eq_true_eq, decide_eq_false_iff_not, gt_iff_lt, ge_iff_le] at h17
      refine QAt.no rfl rfl rfl rfl ?_
      refine QAt.no rfl rfl rfl rfl ?_
      refine QAt.val (Val.pickF rfl rfl) rfl rfl rfl ?_
      refine qM rfl rfl ?_
      refine QAt.no rfl rfl rfl rfl ?_
      refine QAt.no rfl rfl rfl rfl ?_
      refine QAt.val (Val.pickF rfl rfl) rfl rfl rfl ?_
      refine QAt.fin ?_
      refine At.thenN ?_
      refine At.condF rfl ?_
      refine At.skipC ?_
      refine At.blkN ?_
      refine At.thenN ?_
      refine At.region ?_
      refine tM rfl rfl ?_
      first | refine At.val (Val.addI rfl rfl (by omega) (by omega)) rfl rfl rfl ?_ | refine At.val (Val.bin rfl rfl rfl) rfl rfl rfl ?_
      refine tA rfl rfl ?_
      refine tE ?_
      exact At.again (k + 1) (show k + 1 ≤ _ by omega) (by omega) (Sub.cons rfl (Sub.cons rfl (Sub.cons rfl (Sub.cons (congrArg (fun z => some (Value.int IntKind.i64 z)) (by omega)) Sub.nil)))) (List.Perm.refl _)
  ·skip
   try simp only [hasB, isSizeB, Bool.not_eq_true', Bool.not_eq_false', bne_iff_ne, ne_eq, bne_eq_false_iff_eq, beq_iff_eq, beq_eq_false_iff_ne, decide_eq_true_eq, decide_eq_false_iff_not, gt_iff_lt, ge_iff_le] at h2
   refine At.exitC ?_
   refine At.thenX ?_
   refine At.thenX ?_
   refine At.blkX ?_
   refine At.thenN ?_
   refine tR ?_
   refine tA rfl rfl ?_
   refine tE ?_
   refine At.retC ?_
   refine At.ret1 (.inl rfl) rfl rfl rfl (fun w hw => ?_)
   exact ⟨rfl, hw.mod⟩
theorem lawSavedCut_p (pg ino co lf : Int) (vM vW vL : Value) (MS : List Bool) (WS : List (Int × BitVec 64)) (cs : List Int) (w : World) (ht : Tab w) (hvM : Rd w vM 1 MS.length (MS.map Value.bool)) (hmM : MS.length ≤ 140737488355328) (hvW : RdP w vW WS) (hmW : WS.length ≤ 8796093022208) (hvL : RdI w vL cs) (hmL : cs.length ≤ 17592186044416) (hlf : -9223372036854775808 ≤ lf ∧ lf ≤ 9223372036854775807)  :
    PureC Tryd.prog 7 [.agg #[.int .i64 pg, .int .i64 ino, .int .i64 co, vM, vW, .int .i64 lf, vL]] (.bool true) w := by
 refine enter0 Tryd.func7 rfl Tryd.ntmps7 rfl ?_
 obtain ⟨S, hS⟩ : ∃ S, S = shV pg ino co := ⟨_, rfl⟩
 have hS' := shV_ok pg ino co
 rw [← hS] at hS'
 obtain ⟨P, I', C', D'⟩ := S
 dsimp only at hS'
 obtain ⟨hg, rfl⟩ := hS'
 have hg2 := hg
 unfold GoodSup at hg2
 obtain ⟨N, hN⟩ : ∃ N : Nat, 8 * (N : Int) = 512 * P := ⟨(64 * P).toNat, by omega⟩
 obtain ⟨vs0, hv0, hvl0, hv16, ha0, hst0⟩ := devD_ok (N := N) (by omega) (by omega) WS
 obtain ⟨σ0, hσ0⟩ : ∃ σ, σ = devD N WS := ⟨_, rfl⟩
 rw [← hσ0] at hv0 ha0 hst0
 simp only [envOf]
 refine tR ?_
 refine At.box rfl rfl rfl (fun b1 => ?_)
 refine tA rfl rfl ?_
 refine tE ?_
 refine tR ?_
 refine At.val (Val.loadAll (i := 0) Tryd.isAgg26 Tryd.sizeOf26 rfl rfl rfl) rfl rfl rfl ?_
 refine At.callP (fun w hw => (by have h0 := shape_p pg ino co lf vM vW vL w; rw [← hS] at h0; exact h0)) Tryd.call9 rfl rfl ?_
 refine At.alloc Tryd.zeroValue28 rfl rfl (fun b2 => ?_)
 refine At.storeAll (i := 0) Tryd.sizeOf28 rfl rfl rfl (by simp [Value.oneCell']) rfl rfl ?_
 simp only [sc0, scS]
 refine tE ?_
 refine tR ?_
 refine At.val (Val.loadAll (i := 1) Tryd.isAgg26 Tryd.sizeOf26 rfl rfl rfl) rfl rfl rfl ?_
 refine At.callYN (fun w hw => spans_n pg ino co lf vM vW vL MS w (hvM.mod hw.mod) hmM) Tryd.call10 rfl rfl (fun y hI => ?_)
 obtain ⟨vS, L⟩ := y
 dsimp only at hI ⊢
 have hso := hI
 obtain ⟨hsp, hle⟩ := hI
 refine At.rowIs (i := 0) rfl (fun A3 c4 hv => ?_)
 subst hv
 refine tA rfl rfl ?_
 refine tE ?_
 refine tR ?_
 refine At.val (Val.loadAll (i := 2) Tryd.isAgg26 Tryd.sizeOf26 rfl rfl rfl) rfl rfl rfl ?_
 refine At.callNB (fun w hw => (by have h0 := device_n pg ino co lf vM vW vL WS N w (hvW.mod hw.mod) hmW (by rw [← hS]; exact hN); rw [← hσ0] at h0; exact h0)) Tryd.call11 rfl rfl (fun p5 y6 => ?_)
 refine tM rfl rfl ?_
 refine At.val (Val.extract rfl rfl) rfl rfl rfl ?_
 refine At.val (Val.extract rfl rfl) rfl rfl rfl ?_
 refine tA rfl rfl ?_
 refine tA rfl rfl ?_
 refine tE ?_
 refine tR ?_
 refine At.val (Val.loadAll (i := 3) Tryd.isAgg26 Tryd.sizeOf26 rfl rfl rfl) rfl rfl rfl ?_
 refine At.callNB (fun w hw => (by have h0 := device_n pg ino co lf vM vW vL WS N w (hvW.mod hw.mod) hmW (by rw [← hS]; exact hN); rw [← hσ0] at h0; exact h0)) Tryd.call11 rfl rfl (fun p7 y8 => ?_)
 refine tM rfl rfl ?_
 refine At.val (Val.extract rfl rfl) rfl rfl rfl ?_
 refine At.val (Val.extract rfl rfl) rfl rfl rfl ?_
 refine tA rfl rfl ?_
 refine tA rfl rfl ?_
 refine tE ?_
 refine At.seq ?_
 refine tR ?_
 refine tM rfl rfl ?_
 refine At.val (Val.not rfl) rfl rfl rfl ?_
 refine tM rfl rfl ?_
 refine At.yes rfl rfl ?_
 refine tM rfl rfl ?_
 refine At.yes rfl rfl ?_
 refine At.val (Val.not rfl) rfl rfl rfl ?_
 refine At.val (Val.pickF rfl rfl) rfl rfl rfl ?_
 refine tE ?_
 refine At.condF rfl ?_
 refine At.skipC ?_
 refine At.thenN ?_
 refine tR ?_
 refine tM rfl rfl ?_
 refine At.callRK 1 rfl (fun w hw hr => (by have h0 := view_k _ _ _ w hr; rw [hv0, mkC_view] at h0; exact h0)) Tryd.call13 rfl rfl (fun v9 => ?_)
 refine tA rfl rfl ?_
 refine tE ?_
 refine tR ?_
 refine tM rfl rfl ?_
 refine At.callK 2 rfl (fun w hw hr => steps_k _ _ _ w hr) Tryd.call21 rfl rfl ?_
 refine tA rfl rfl ?_
 refine tE ?_
 refine tR ?_
 refine tM rfl rfl ?_
 refine tM rfl rfl ?_
 obtain ⟨n, hn8, hn160, ea1, eb1, hst1, hcut⟩ := cut_eff (L := L) hv0 ha0 hg (by omega) hso hv16
 obtain ⟨σ1, hσ1⟩ : ∃ σ, σ = (saveE σ0 L).2.2 := ⟨_, rfl⟩
 rw [← hσ1] at hst1
 refine At.callD 2 rfl (fun w hw hr => (by have h0 := save_d _ _ _ _ L w (ht.mod hw.mod) (Rep.off0 hw ht (fun h => h) (i := 2) rfl) (row_rd (hw.row (i := 3) rfl) (by decide)) (Rep.offRow (i := 3) (j := 2) hw rfl rfl (by decide)) (by omega) (by omega) hr; rw [ea1, eb1, ← hσ1] at h0; exact h0)) Tryd.call12 rfl rfl (fun y10 => ?_)
 simp only [sc0, scS]
 refine tM rfl rfl ?_
 refine At.val (Val.extract rfl rfl) rfl rfl rfl ?_
 refine At.val (Val.extract rfl rfl) rfl rfl rfl ?_
 refine tA rfl rfl ?_
 refine tA rfl rfl ?_
 refine tE ?_
 refine tR ?_
 refine tM rfl rfl ?_
 refine At.callK 2 rfl (fun w hw hr => steps_k _ _ _ w hr) Tryd.call21 rfl rfl ?_
 refine tM rfl rfl ?_
 refine At.val (Val.subI rfl rfl (by omega) (by omega)) rfl rfl rfl ?_
 rw [show ((σ1.steps : Int) - (σ0.steps : Int)) = (n : Int) from by omega]
 refine tA rfl rfl ?_
 refine tE ?_
 refine At.seq ?_
 refine tR ?_
 refine tM rfl rfl ?_
 refine At.val (Val.not rfl) rfl rfl rfl ?_
 refine tM rfl rfl ?_
 refine At.yes rfl rfl ?_
 refine tM rfl rfl ?_
 refine At.yes rfl rfl ?_
 refine At.val (Val.bin rfl rfl rfl) rfl rfl rfl ?_
 refine At.val (Val.pickF rfl rfl) rfl rfl rfl ?_
 refine tM rfl rfl ?_
 refine At.yes rfl rfl ?_
 refine tM rfl rfl ?_
 refine At.yes rfl rfl ?_
 refine At.val (Val.bin rfl rfl rfl) rfl rfl rfl ?_
 refine At.val (Val.pickF rfl rfl) rfl rfl rfl ?_
 refine tE ?_
 refine At.cond rfl (fun h11 => ?_) (fun h11 => ?_)
 ·skip
  try simp only [hasB, isSizeB, Bool.not_eq_true', Bool.not_eq_false', bne_iff_ne, ne_eq, bne_eq_false_iff_eq, beq_iff_eq, beq_eq_false_iff_ne, decide_eq_true_eq, decide_eq_false_iff_not, gt_iff_lt, ge_iff_le] at h11
  omega
 ·skip
  try simp only [hasB, isSizeB, Bool.not_eq_true', Bool.not_eq_false', bne_iff_ne, ne_eq, bne_eq_false_iff_eq, beq_iff_eq, beq_eq_false_iff_ne, decide_eq_true_eq, decide_eq_false_iff_not, gt_iff_lt, ge_iff_le] at h11
  refine At.skipC ?_
  refine At.thenN ?_
  refine tR ?_
  refine At.val (Val.field 5 rfl fo_26_5 rfl) rfl rfl rfl ?_
  refine At.val (Val.load (i := 5) Tryd.isAgg3 rfl rfl rfl) rfl rfl rfl ?_
  refine tM rfl rfl ?_
  first | refine At.val (Val.addI rfl rfl (by omega) (by omega)) rfl rfl rfl ?_ | refine At.val (Val.bin rfl rfl rfl) rfl rfl rfl ?_
  refine At.val (Val.rem rfl rfl (by omega)) rfl rfl rfl ?_
  have hz := tmod_bd lf (b := (n : Int) + 1) (by omega)
  generalize Int.tmod lf ((n : Int) + 1) = z at hz ⊢
  refine tA rfl rfl ?_
  refine tE ?_
  refine At.join (σ := Int) (fun s => 0 ≤ s ∧ s ≤ n) (fun s => [(1, .pointer (some ⟨b1, 0, none⟩)), (3, .pointer (some ⟨b2, 0, none⟩)), (4, (.slice A3 ((L).length) c4)), (7, .pointer (some ⟨p7, 0, none⟩)), (9, v9), (13, .int .i64 (n : Int)), (14, .int .i64 s)]) (fun s => [rowR v9 5 1 ((wbytes vs0).length) ((wbytes vs0).map bv), Dev p7 y8 (σ0), Dev p5 y10 (σ1), rowR (.slice A3 ((L).length) c4) 51 2 ((L).length) (prS (L)), blk b2 28 ([.int .i64 P, .int .i64 I', .int .i64 C', .int .i64 (4 + I' / 8)]), blk b1 26 ([.int .i64 pg, .int .i64 ino, .int .i64 co, vM, vW, .int .i64 lf, vL])]) ?_ ?_
  ·skip
   refine tR ?_
   refine tM rfl rfl ?_
   refine At.val (Val.bin rfl rfl rfl) rfl rfl rfl ?_
   refine tE ?_
   refine At.cond rfl (fun h12 => ?_) (fun h12 => ?_)
   ·skip
    try simp only [hasB, isSizeB, Bool.not_eq_true', Bool.not_eq_false', bne_iff_ne, ne_eq, bne_eq_false_iff_eq, beq_iff_eq, beq_eq_false_iff_ne, decide_eq_true_eq, decide_eq_false_iff_not, gt_iff_lt, ge_iff_le] at h12
    refine At.region ?_
    refine tM rfl rfl ?_
    refine tM rfl rfl ?_
    first | refine At.val (Val.addI rfl rfl (by omega) (by omega)) rfl rfl rfl ?_ | refine At.val (Val.bin rfl rfl rfl) rfl rfl rfl ?_
    first | refine At.val (Val.addI rfl rfl (by omega) (by omega)) rfl rfl rfl ?_ | refine At.val (Val.bin rfl rfl rfl) rfl rfl rfl ?_
    refine tA rfl rfl ?_
    refine tE ?_
    exact At.meets _ (by omega) (Sub.cons rfl (Sub.cons rfl (Sub.cons rfl (Sub.cons rfl (Sub.cons rfl (Sub.cons rfl (Sub.cons rfl Sub.nil))))))) (List.Perm.refl _)
   ·skip
    try simp only [hasB, isSizeB, Bool.not_eq_true', Bool.not_eq_false', bne_iff_ne, ne_eq, bne_eq_false_iff_eq, beq_iff_eq, beq_eq_false_iff_ne, decide_eq_true_eq, decide_eq_false_iff_not, gt_iff_lt, ge_iff_le] at h12
    refine At.skipC ?_
    refine At.thenN ?_
    exact At.meets _ (by omega) (Sub.cons rfl (Sub.cons rfl (Sub.cons rfl (Sub.cons rfl (Sub.cons rfl (Sub.cons rfl (Sub.cons rfl Sub.nil))))))) (List.Perm.refl _)
  ·skip
   intro s hs
   obtain ⟨k, rfl⟩ : ∃ k : Nat, s = (k : Int) := ⟨s.toNat, by omega⟩
   obtain ⟨ec, ed1, ed2, hZ⟩ := hcut k (by omega)
   refine tR ?_
   refine tM rfl rfl ?_
   refine tM rfl rfl ?_
   refine At.callD 1 rfl (fun w hw hr => arm_d _ _ σ0 k w (by omega) (dead_of ha0) hr) Tryd.call22 rfl rfl (fun y13 => ?_)
   simp only [sc0, scS]
   refine tE ?_
   refine tR ?_
   refine tM rfl rfl ?_
   refine tM rfl rfl ?_
   obtain ⟨e2, he2⟩ : ∃ e, e = (saveE (armD σ0 k) L).2.1 := ⟨_, rfl⟩
   rw [← he2] at ed1 ed2
   obtain ⟨σ2, hσ2⟩ : ∃ σ, σ = (saveE (armD σ0 k) L).2.2 := ⟨_, rfl⟩
   rw [← hσ2] at hZ
   refine At.callD 1 rfl (fun w hw hr => (by have h0 := save_d _ _ (armD σ0 k) _ L w (ht.mod hw.mod) (Rep.off0 hw ht (fun h => h) (i := 1) rfl) (row_rd (hw.row (i := 3) rfl) (by decide)) (Rep.offRow (i := 3) (j := 1) hw rfl rfl (by decide)) (by omega) (show σ0.steps + 160 ≤ _ by omega) hr; rw [ec, ← he2, ← hσ2] at h0; exact h0)) Tryd.call12 rfl rfl (fun y14 => ?_)
   simp only [sc0, scS]
   refine tM rfl rfl ?_
   refine At.val (Val.extract rfl rfl) rfl rfl rfl ?_
   refine At.val (Val.extract rfl rfl) rfl rfl rfl ?_
   refine tA rfl rfl ?_
   refine tA rfl rfl ?_
   refine tE ?_
   refine At.seq ?_
   refine tR ?_
   refine At.weaken [(1, _), (3, _), (4, _), (7, _), (9, _), (13, _), (14, _), (73, _), (74, _), (77, _), (78, _), (79, _), (76, _), (80, _), (81, _), (11, _), (12, _)] (Sub.cons rfl (Sub.cons rfl (Sub.cons rfl (Sub.cons rfl (Sub.cons rfl (Sub.cons rfl (Sub.cons rfl (Sub.cons rfl (Sub.cons rfl (Sub.cons rfl (Sub.cons rfl (Sub.cons rfl (Sub.cons rfl (Sub.cons rfl (Sub.cons rfl (Sub.cons rfl (Sub.cons rfl Sub.nil))))))))))))))))) ?_
   refine At.boolMeet 20 101 (false) ?_ ?_
   ·skip
    simp only [List.take_succ_cons, List.take_zero]
    refine tM rfl rfl ?_
    refine tM rfl rfl ?_
    refine tM rfl rfl ?_
    refine At.val (Val.bin rfl rfl rfl) rfl rfl rfl ?_
    refine At.val (Val.neB Tryd.underlying4 rfl rfl) rfl rfl rfl ?_
    rw [show (!(decide (k = n) == ((k : Int) == (n : Int)))) = false from eqNB k n]
    refine tM rfl rfl ?_
    refine At.yes rfl rfl ?_
    refine tM rfl rfl ?_
    refine At.yes rfl rfl ?_
    refine tM rfl rfl ?_
    refine At.split (t := 89) rfl (fun h15 => ?_) (fun h15 => ?_)
    ·skip
     try simp only [hasB, isSizeB, Bool.not_eq_true', Bool.not_eq_false', bne_iff_ne, ne_eq, bne_eq_false_iff_eq, beq_iff_eq, beq_eq_false_iff_ne, decide_eq_true_eq, decide_eq_false_iff_not, gt_iff_lt, ge_iff_le] at h15
     have hkn : k = n := h15
     refine At.yes rfl rfl ?_
     refine tM rfl rfl ?_
     refine At.yes rfl rfl ?_
     refine At.val (Val.bin rfl rfl rfl) rfl rfl rfl ?_
     rw [show (e2 != 0) = false from bne_eq_false_iff_eq.2 (ed1 hkn)]
     refine At.yes rfl rfl ?_
     refine At.val (Val.pickT rfl rfl) rfl rfl rfl ?_
     refine At.val (Val.pickF rfl rfl) rfl rfl rfl ?_
     refine tM rfl rfl ?_
     refine At.yes rfl rfl ?_
     refine tM rfl rfl ?_
     refine At.yes rfl rfl ?_
     refine At.val (Val.not rfl) rfl rfl rfl ?_
     refine At.yes rfl rfl ?_
     refine tM rfl rfl ?_
     refine At.split (t := 97) rfl (fun h16 => ?_) (fun h16 => ?_)
     ·skip
      try simp only [hasB, isSizeB, Bool.not_eq_true', Bool.not_eq_false', bne_iff_ne, ne_eq, bne_eq_false_iff_eq, beq_iff_eq, beq_eq_false_iff_ne, decide_eq_true_eq, decide_eq_false_iff_not, gt_iff_lt, ge_iff_le] at h16
      have hkn' : k ≠ n := by simpa using h16
      refine At.yes rfl rfl ?_
      refine tM rfl rfl ?_
      refine At.yes rfl rfl ?_
      refine At.val (Val.bin rfl rfl rfl) rfl rfl rfl ?_
      rw [show (e2 != 13) = false from bne_eq_false_iff_eq.2 (ed2 hkn')]
      refine At.yes rfl rfl ?_
      refine At.val (Val.pickT rfl rfl) rfl rfl rfl ?_
      refine At.val (Val.pickF rfl rfl) rfl rfl rfl ?_
      refine At.nil ?_
      exact At.boolEnd rfl rfl (by repeat (first | exact Sub.nil | refine Sub.cons rfl ?_))
     ·skip
      try simp only [hasB, isSizeB, Bool.not_eq_true', Bool.not_eq_false', bne_iff_ne, ne_eq, bne_eq_false_iff_eq, beq_iff_eq, beq_eq_false_iff_ne, decide_eq_true_eq, decide_eq_false_iff_not, gt_iff_lt, ge_iff_le] at h16
      refine At.no rfl rfl rfl rfl ?_
      refine At.no rfl rfl rfl rfl ?_
      refine At.yes rfl rfl ?_
      refine At.val (Val.pickF rfl rfl) rfl rfl rfl ?_
      refine At.val (Val.pickF rfl rfl) rfl rfl rfl ?_
      refine At.nil ?_
      exact At.boolEnd rfl rfl (by repeat (first | exact Sub.nil | refine Sub.cons rfl ?_))
    ·skip
     try simp only [hasB, isSizeB, Bool.not_eq_true', Bool.not_eq_false', bne_iff_ne, ne_eq, bne_eq_false_iff_eq, beq_iff_eq, beq_eq_false_iff_ne, decide_eq_true_eq, decide_eq_false_iff_not, gt_iff_lt, ge_iff_le] at h15
     refine At.no rfl rfl rfl rfl ?_
     refine At.no rfl rfl rfl rfl ?_
     refine At.yes rfl rfl ?_
     refine At.val (Val.pickF rfl rfl) rfl rfl rfl ?_
     refine At.val (Val.pickF rfl rfl) rfl rfl rfl ?_
     refine tM rfl rfl ?_
     refine At.yes rfl rfl ?_
     refine tM rfl rfl ?_
     refine At.yes rfl rfl ?_
     refine At.val (Val.not rfl) rfl rfl rfl ?_
     refine At.yes rfl rfl ?_
     refine tM rfl rfl ?_
     refine At.split (t := 97) rfl (fun h17 => ?_) (fun h17 => ?_)
     ·skip
      try simp only [hasB, isSizeB, Bool.not_eq_true', Bool.not_eq_false', bne_iff_ne, ne_eq, bne_eq_false_iff_eq, beq_iff_eq, beq_eq_false_iff_ne, decide_eq_true_eq, decide_eq_false_iff_not, gt_iff_lt, ge_iff_le] at h17
      have hkn' : k ≠ n := by simpa using h17
      refine At.yes rfl rfl ?_
      refine tM rfl rfl ?_
      refine At.yes rfl rfl ?_
      refine At.val (Val.bin rfl rfl rfl) rfl rfl rfl ?_
      rw [show (e2 != 13) = false from bne_eq_false_iff_eq.2 (ed2 hkn')]
      refine At.yes rfl rfl ?_
      refine At.val (Val.pickT rfl rfl) rfl rfl rfl ?_
      refine At.val (Val.pickF rfl rfl) rfl rfl rfl ?_
      refine At.nil ?_
      exact At.boolEnd rfl rfl (by repeat (first | exact Sub.nil | refine Sub.cons rfl ?_))
     ·skip
      try simp only [hasB, isSizeB, Bool.not_eq_true', Bool.not_eq_false', bne_iff_ne, ne_eq, bne_eq_false_iff_eq, beq_iff_eq, beq_eq_false_iff_ne, decide_eq_true_eq, decide_eq_false_iff_not, gt_iff_lt, ge_iff_le] at h17
      refine At.no rfl rfl rfl rfl ?_
      refine At.no rfl rfl rfl rfl ?_
      refine At.yes rfl rfl ?_
      refine At.val (Val.pickF rfl rfl) rfl rfl rfl ?_
      refine At.val (Val.pickF rfl rfl) rfl rfl rfl ?_
      refine At.nil ?_
      exact At.boolEnd rfl rfl (by repeat (first | exact Sub.nil | refine Sub.cons rfl ?_))
   ·skip
    simp only [List.drop_succ_cons, List.drop_zero]
    refine tE ?_
    refine At.cond rfl (fun h18 => ?_) (fun h18 => ?_)
    ·skip
     try simp only [hasB, isSizeB, Bool.not_eq_true', Bool.not_eq_false', bne_iff_ne, ne_eq, bne_eq_false_iff_eq, beq_iff_eq, beq_eq_false_iff_ne, decide_eq_true_eq, decide_eq_false_iff_not, gt_iff_lt, ge_iff_le] at h18
     cases h18
    ·skip
     try simp only [hasB, isSizeB, Bool.not_eq_true', Bool.not_eq_false', bne_iff_ne, ne_eq, bne_eq_false_iff_eq, beq_iff_eq, beq_eq_false_iff_ne, decide_eq_true_eq, decide_eq_false_iff_not, gt_iff_lt, ge_iff_le] at h18
     refine At.skipC ?_
     refine At.thenN ?_
     refine tR ?_
     refine tM rfl rfl ?_
     refine At.val (Val.field 6 rfl fo_26_6 rfl) rfl rfl rfl ?_
     refine At.val (Val.load (i := 5) Tryd.isAgg24 rfl rfl rfl) rfl rfl rfl ?_
     obtain ⟨Z, hZe, hZl, hZx, hZ1, hZ2, hZ3⟩ := hZ cs
     have hZb : (wbytes Z).length = 8 * N := by rw [wbytes_length, hZl, hvl0]
     refine At.callRK 1 rfl (fun w hw hr => (by have h0 := crash_k _ _ _ vL cs w (hvL.mod hw.mod) (hvL.off (hw.newFoot (List.mem_of_getElem? (i := 1) rfl))) hr; rw [← hZe] at h0; exact h0)) Tryd.call23 rfl rfl (fun v19 => ?_)
     refine tA rfl rfl ?_
     refine tE ?_
     refine tR ?_
     refine tM rfl rfl ?_
     refine At.val (Val.loadAll (i := 5) Tryd.isAgg28 Tryd.sizeOf28 rfl rfl rfl) rfl rfl rfl ?_
     refine tM rfl rfl ?_
     refine At.val (Val.build (fun a ha => by simp only [List.map_toArray, List.map_cons, List.map_nil, ha.eval (x := (.tmp 108)) rfl, ha.eval (x := (.tmp 109)) rfl] <;> rfl) (bld_45_0_2 _ _ _ _ _ _ _ )) rfl rfl rfl ?_
     obtain ⟨e21, he21⟩ : ∃ e, e = restE (wbytes Z) P I' C' (4 + I' / 8) L := ⟨_, rfl⟩
     obtain ⟨R21, hR21⟩ : ∃ R, R = restL (wbytes Z) P I' C' (4 + I' / 8) L := ⟨_, rfl⟩
     refine At.callNT (g := (fun v => .tuple #[v, .int .i64 e21])) (fun w hw => (by have h0 := restore_n _ _ (wbytes Z) P I' C' (4 + I' / 8) L w (ht.mod hw.mod) (row_rd (hw.row (i := 0) rfl) (by decide)) (row_rd (hw.row (i := 4) rfl) (by decide)) (by omega) (by first | omega | (have h9 := growS_le L; omega)); rw [← he21, ← hR21] at h0; exact h0)) Tryd.call14 rfl rfl (fun v20 => ?_)
     refine tM rfl rfl ?_
     refine At.val (Val.extract rfl rfl) rfl rfl rfl ?_
     refine At.val (Val.extract rfl rfl) rfl rfl rfl ?_
     refine tA rfl rfl ?_
     refine tA rfl rfl ?_
     refine At.nil ?_
     rw [← he21] at hZ1 hZ2 hZ3
     have hA1 : e21 = 0 → R21 = L := fun h => by rw [hR21]; exact restL_yes (he21.symm.trans h)
     refine At.thenN ?_
     refine At.seq ?_
     refine tR ?_
     refine At.weaken [(1, _), (3, _), (4, _), (7, _), (9, _), (13, _), (14, _), (73, _), (74, _), (77, _), (78, _), (79, _), (76, _), (80, _), (81, _), (11, _), (12, _), (101, _), (102, _), (103, _), (104, _), (105, _), (15, _), (107, _), (108, _), (109, _), (110, _), (111, _), (106, _), (112, _), (113, _), (16, _), (17, _)] (Sub.cons rfl (Sub.cons rfl (Sub.cons rfl (Sub.cons rfl (Sub.cons rfl (Sub.cons rfl (Sub.cons rfl (Sub.cons rfl (Sub.cons rfl (Sub.cons rfl (Sub.cons rfl (Sub.cons rfl (Sub.cons rfl (Sub.cons rfl (Sub.cons rfl (Sub.cons rfl (Sub.cons rfl (Sub.cons rfl (Sub.cons rfl (Sub.cons rfl (Sub.cons rfl (Sub.cons rfl (Sub.cons rfl (Sub.cons rfl (Sub.cons rfl (Sub.cons rfl (Sub.cons rfl (Sub.cons rfl (Sub.cons rfl (Sub.cons rfl (Sub.cons rfl (Sub.cons rfl (Sub.cons rfl Sub.nil))))))))))))))))))))))))))))))))) ?_
     refine At.boolMeet 12 125 (false) ?_ ?_
     ·skip
      simp only [List.take_succ_cons, List.take_zero]
      refine tM rfl rfl ?_
      refine At.val (Val.bin rfl rfl rfl) rfl rfl rfl ?_
      refine tM rfl rfl ?_
      refine At.split (t := 116) rfl (fun h21 => ?_) (fun h21 => ?_)
      ·skip
       try simp only [hasB, isSizeB, Bool.not_eq_true', Bool.not_eq_false', bne_iff_ne, ne_eq, bne_eq_false_iff_eq, beq_iff_eq, beq_eq_false_iff_ne, decide_eq_true_eq, decide_eq_false_iff_not, gt_iff_lt, ge_iff_le] at h21
       have he0 : e21 = 0 := hZ1.resolve_left h21
       refine At.yes rfl rfl ?_
       refine tM rfl rfl ?_
       refine At.yes rfl rfl ?_
       refine At.val (Val.bin rfl rfl rfl) rfl rfl rfl ?_
       rw [show (e21 != 0) = false from bne_eq_false_iff_eq.2 he0]
       refine At.yes rfl rfl ?_
       refine tM rfl rfl ?_
       refine At.yes rfl rfl ?_
       refine tM rfl rfl ?_
       refine At.yes rfl rfl ?_
       refine tM rfl rfl ?_
       refine At.yes rfl rfl ?_
       refine At.callP (fun w hw => (by have h0 := sameSpL_p _ _ R21 L w (row_rd (hw.row (i := 0) rfl) (by decide)) (row_rd (hw.row (i := 5) rfl) (by decide)) (by rw [(hA1 he0)]; first | omega | (have h9 := growS_le L; omega)) (by first | omega | (have h9 := growS_le L; omega)); rwa [decide_eq_true (hA1 he0)] at h0)) Tryd.call16 rfl rfl ?_
       refine At.yes rfl rfl ?_
       refine At.val (Val.not rfl) rfl rfl rfl ?_
       refine At.yes rfl rfl ?_
       refine At.val (Val.pickF rfl rfl) rfl rfl rfl ?_
       refine At.val (Val.pickT rfl rfl) rfl rfl rfl ?_
       refine At.nil ?_
       exact At.boolEnd rfl rfl (by repeat (first | exact Sub.nil | refine Sub.cons rfl ?_))
      ·skip
       try simp only [hasB, isSizeB, Bool.not_eq_true', Bool.not_eq_false', bne_iff_ne, ne_eq, bne_eq_false_iff_eq, beq_iff_eq, beq_eq_false_iff_ne, decide_eq_true_eq, decide_eq_false_iff_not, gt_iff_lt, ge_iff_le] at h21
       refine At.no rfl rfl rfl rfl ?_
       refine At.no rfl rfl rfl rfl ?_
       refine At.no rfl rfl rfl rfl ?_
       refine At.noU rfl rfl rfl ?_
       refine At.noU rfl rfl rfl ?_
       refine At.noU rfl rfl rfl ?_
       refine At.noU rfl rfl rfl ?_
       refine At.no rfl rfl rfl rfl ?_
       refine At.val (Val.pickF rfl rfl) rfl rfl rfl ?_
       refine At.nil ?_
       exact At.boolEnd rfl rfl (by repeat (first | exact Sub.nil | refine Sub.cons rfl ?_))
     ·skip
      simp only [List.drop_succ_cons, List.drop_zero]
      refine tE ?_
      refine At.cond rfl (fun h22 => ?_) (fun h22 => ?_)
      ·skip
       try simp only [hasB, isSizeB, Bool.not_eq_true', Bool.not_eq_false', bne_iff_ne, ne_eq, bne_eq_false_iff_eq, beq_iff_eq, beq_eq_false_iff_ne, decide_eq_true_eq, decide_eq_false_iff_not, gt_iff_lt, ge_iff_le] at h22
       cases h22
      ·skip
       try simp only [hasB, isSizeB, Bool.not_eq_true', Bool.not_eq_false', bne_iff_ne, ne_eq, bne_eq_false_iff_eq, beq_iff_eq, beq_eq_false_iff_ne, decide_eq_true_eq, decide_eq_false_iff_not, gt_iff_lt, ge_iff_le] at h22
       refine At.skipC ?_
       refine At.thenN ?_
       refine At.seq ?_
       refine tR ?_
       refine At.weaken [(1, _), (3, _), (4, _), (7, _), (9, _), (13, _), (14, _), (73, _), (74, _), (77, _), (78, _), (79, _), (76, _), (80, _), (81, _), (11, _), (12, _), (101, _), (102, _), (103, _), (104, _), (105, _), (15, _), (107, _), (108, _), (109, _), (110, _), (111, _), (106, _), (112, _), (113, _), (16, _), (17, _), (125, _)] (Sub.cons rfl (Sub.cons rfl (Sub.cons rfl (Sub.cons rfl (Sub.cons rfl (Sub.cons rfl (Sub.cons rfl (Sub.cons rfl (Sub.cons rfl (Sub.cons rfl (Sub.cons rfl (Sub.cons rfl (Sub.cons rfl (Sub.cons rfl (Sub.cons rfl (Sub.cons rfl (Sub.cons rfl (Sub.cons rfl (Sub.cons rfl (Sub.cons rfl (Sub.cons rfl (Sub.cons rfl (Sub.cons rfl (Sub.cons rfl (Sub.cons rfl (Sub.cons rfl (Sub.cons rfl (Sub.cons rfl (Sub.cons rfl (Sub.cons rfl (Sub.cons rfl (Sub.cons rfl (Sub.cons rfl (Sub.cons rfl Sub.nil)))))))))))))))))))))))))))))))))) ?_
       refine At.boolMeet 5 130 (false) ?_ ?_
       ·skip
        simp only [List.take_succ_cons, List.take_zero]
        refine tM rfl rfl ?_
        refine tM rfl rfl ?_
        refine At.split (t := 127) rfl (fun h23 => ?_) (fun h23 => ?_)
        ·skip
         try simp only [hasB, isSizeB, Bool.not_eq_true', Bool.not_eq_false', bne_iff_ne, ne_eq, bne_eq_false_iff_eq, beq_iff_eq, beq_eq_false_iff_ne, decide_eq_true_eq, decide_eq_false_iff_not, gt_iff_lt, ge_iff_le] at h23
         have hkn : k = n := h23
         refine At.yes rfl rfl ?_
         refine tM rfl rfl ?_
         refine At.yes rfl rfl ?_
         refine At.val (Val.bin rfl rfl rfl) rfl rfl rfl ?_
         rw [show (e21 != 0) = false from bne_eq_false_iff_eq.2 (hZ2 hkn)]
         refine At.val (Val.pickT rfl rfl) rfl rfl rfl ?_
         refine At.nil ?_
         exact At.boolEnd rfl rfl (by repeat (first | exact Sub.nil | refine Sub.cons rfl ?_))
        ·skip
         try simp only [hasB, isSizeB, Bool.not_eq_true', Bool.not_eq_false', bne_iff_ne, ne_eq, bne_eq_false_iff_eq, beq_iff_eq, beq_eq_false_iff_ne, decide_eq_true_eq, decide_eq_false_iff_not, gt_iff_lt, ge_iff_le] at h23
         refine At.no rfl rfl rfl rfl ?_
         refine At.no rfl rfl rfl rfl ?_
         refine At.val (Val.pickF rfl rfl) rfl rfl rfl ?_
         refine At.nil ?_
         exact At.boolEnd rfl rfl (by repeat (first | exact Sub.nil | refine Sub.cons rfl ?_))
       ·skip
        simp only [List.drop_succ_cons, List.drop_zero]
        refine tE ?_
        refine At.cond rfl (fun h24 => ?_) (fun h24 => ?_)
        ·skip
         try simp only [hasB, isSizeB, Bool.not_eq_true', Bool.not_eq_false', bne_iff_ne, ne_eq, bne_eq_false_iff_eq, beq_iff_eq, beq_eq_false_iff_ne, decide_eq_true_eq, decide_eq_false_iff_not, gt_iff_lt, ge_iff_le] at h24
         cases h24
        ·skip
         try simp only [hasB, isSizeB, Bool.not_eq_true', Bool.not_eq_false', bne_iff_ne, ne_eq, bne_eq_false_iff_eq, beq_iff_eq, beq_eq_false_iff_ne, decide_eq_true_eq, decide_eq_false_iff_not, gt_iff_lt, ge_iff_le] at h24
         refine At.skipC ?_
         refine At.thenN ?_
         refine tR ?_
         refine tM rfl rfl ?_
         refine tM rfl rfl ?_
         refine tM rfl rfl ?_
         refine At.val (Val.lenRow (i := 5) Tryd.underlying30 rfl rfl) rfl rfl rfl ?_
         refine At.callP (fun w hw => besides_p _ _ (wbytes vs0) (wbytes Z) L.length w (row_rd (hw.row (i := 2) rfl) (by decide)) (row_rd (hw.row (i := 1) rfl) (by decide)) (by rw [wbytes_length]; omega) (by rw [wbytes_length, wbytes_length]; omega) (by omega) (by intro x hx; rw [wbytes_length] at hx; exact hZx x hx)) Tryd.call24 rfl rfl ?_
         refine At.weaken [(1, _), (3, _), (4, _), (7, _), (13, _), (14, _), (73, _), (74, _), (77, _), (78, _), (79, _), (76, _), (80, _), (81, _), (11, _), (12, _), (101, _), (102, _), (103, _), (104, _), (105, _), (15, _), (107, _), (108, _), (109, _), (110, _), (111, _), (106, _), (112, _), (113, _), (16, _), (17, _), (125, _), (130, _), (135, _)] (Sub.cons rfl (Sub.cons rfl (Sub.cons rfl (Sub.cons rfl (Sub.cons rfl (Sub.cons rfl (Sub.cons rfl (Sub.cons rfl (Sub.cons rfl (Sub.cons rfl (Sub.cons rfl (Sub.cons rfl (Sub.cons rfl (Sub.cons rfl (Sub.cons rfl (Sub.cons rfl (Sub.cons rfl (Sub.cons rfl (Sub.cons rfl (Sub.cons rfl (Sub.cons rfl (Sub.cons rfl (Sub.cons rfl (Sub.cons rfl (Sub.cons rfl (Sub.cons rfl (Sub.cons rfl (Sub.cons rfl (Sub.cons rfl (Sub.cons rfl (Sub.cons rfl (Sub.cons rfl (Sub.cons rfl (Sub.cons rfl (Sub.cons rfl Sub.nil))))))))))))))))))))))))))))))))))) ?_
         refine At.boolMeet 10 145 (true) ?_ ?_
         ·skip
          simp only [List.take_succ_cons, List.take_zero]
          refine tM rfl rfl ?_
          refine At.yes rfl rfl ?_
          refine tM rfl rfl ?_
          refine At.yes rfl rfl ?_
          refine tM rfl rfl ?_
          refine At.yes rfl rfl ?_
          first | refine At.val (Val.subI rfl rfl (by omega) (by omega)) rfl rfl rfl ?_ | refine At.val (Val.bin rfl rfl rfl) rfl rfl rfl ?_
          refine At.yes rfl rfl ?_
          refine At.val (Val.bin rfl rfl rfl) rfl rfl rfl ?_
          refine At.yes rfl rfl ?_
          refine tM rfl rfl ?_
          refine At.split (t := 141) rfl (fun h25 => ?_) (fun h25 => ?_)
          ·skip
           try simp only [hasB, isSizeB, Bool.not_eq_true', Bool.not_eq_false', bne_iff_ne, ne_eq, bne_eq_false_iff_eq, beq_iff_eq, beq_eq_false_iff_ne, decide_eq_true_eq, decide_eq_false_iff_not, gt_iff_lt, ge_iff_le] at h25
           refine At.no rfl rfl rfl rfl ?_
           refine At.no rfl rfl rfl rfl ?_
           refine At.yes rfl rfl ?_
           refine At.val (Val.pickT rfl rfl) rfl rfl rfl ?_
           refine At.val (Val.pickT rfl rfl) rfl rfl rfl ?_
           refine At.nil ?_
           exact At.boolEnd rfl rfl (by repeat (first | exact Sub.nil | refine Sub.cons rfl ?_))
          ·skip
           try simp only [hasB, isSizeB, Bool.not_eq_true', Bool.not_eq_false', bne_iff_ne, ne_eq, bne_eq_false_iff_eq, beq_iff_eq, beq_eq_false_iff_ne, decide_eq_true_eq, decide_eq_false_iff_not, gt_iff_lt, ge_iff_le] at h25
           have hk2 : e21 = 130 := hZ3 (by omega)
           refine At.yes rfl rfl ?_
           refine tM rfl rfl ?_
           refine At.yes rfl rfl ?_
           refine At.val (Val.bin rfl rfl rfl) rfl rfl rfl ?_
           rw [show (e21 == 130) = true from beq_iff_eq.2 hk2]
           refine At.yes rfl rfl ?_
           refine At.val (Val.pickF rfl rfl) rfl rfl rfl ?_
           refine At.val (Val.pickT rfl rfl) rfl rfl rfl ?_
           refine At.nil ?_
           exact At.boolEnd rfl rfl (by repeat (first | exact Sub.nil | refine Sub.cons rfl ?_))
         ·skip
          simp only [List.drop_succ_cons, List.drop_zero]
          refine tA rfl rfl ?_
          refine tE ?_
          refine At.retC ?_
          refine At.ret1 (.inl rfl) rfl rfl rfl (fun w hw => ?_)
          exact ⟨rfl, hw.mod⟩
end Go.Proofs.YtpihenmdkoojdaaDoor
set_option linter.unusedVariables false
set_option linter.unusedSimpArgs false
namespace Go.Wk
open Go Go.ChangeShapes Go.WideShapes Go.ChangeAt Go.RowKit
section
variable {H : Type} {enc : TypeId × Value → H} {P : Program} {W : World} {r : Reach} {base b0 : Nat} {sp : Nat → Bool} {held : Bool}
theorem each_of {p : Nat → Bool} : ∀ {ts : List TypeId} {ds : List (DataW H)} {i : Nat} {t : TypeId} {d : DataW H}, (DataW.weightsEach P ts ds).all p = true → ts[i]? = some t → ds[i]? = some d → (DataW.weights P t d).all p = true
  | t' :: ts, d' :: ds, 0, t, d, h, ht, hd => by
    simp only [DataW.weightsEach, List.all_append, Bool.and_eq_true] at h
    have e1 : t' = t := by simpa using ht
    have e2 : d' = d := by simpa using hd
    subst e1 e2; exact h.1
  | t' :: ts, d' :: ds, i + 1, t, d, h, ht, hd => by
    simp only [DataW.weightsEach, List.all_append, Bool.and_eq_true] at h
    exact each_of h.2 (by simpa using ht) (by simpa using hd)
  | [], ds, i, t, d, h, ht, hd => by simp at ht
  | t' :: ts, [], i, t, d, h, ht, hd => by simp at hd
/-- What a field's one cell is. -/
structure Fld (enc : TypeId × Value → H) (P : Program) (W : World) (r : Reach) (base b0 : Nat) (sp : Nat → Bool) (held : Bool) (t : TypeId) (c : Value) : Prop where
  ok : Cell.okWide P W r base t c
  read : ∃ fuel x, DataW.trod enc P W b0 sp held fuel t [c] = some x ∧ (DataW.weights P t x.1).all (· ≤ reachBytes) = true
theorem Fld.int {t : TypeId} {c : Value} (u : P.underlying t = some (.int .i64)) (h : Fld enc P W r base b0 sp held t c) : ∃ n, c = .int .i64 n ∧ Fits n := by
  obtain ⟨fuel, x, hf, _⟩ := h.read
  obtain ⟨n, g, _, w⟩ := DataW.trod_int u hf
  exact ⟨n, by simpa using g, has64 (by simpa [Lit.wf, IntKind.has] using w)⟩
theorem Fld.word {t : TypeId} {c : Value} (u : P.underlying t = some (.int .u64)) (h : Fld enc P W r base b0 sp held t c) : ∃ x, c = b64 x := by
  obtain ⟨fuel, x, hf, _⟩ := h.read
  obtain ⟨n, g, _, w⟩ := DataW.trod_int u hf
  obtain ⟨x, rfl⟩ := hasU64 (n := n) (by simpa [Lit.wf, IntKind.has] using w)
  exact ⟨x, by simpa using g⟩
theorem Fld.ints {t e : TypeId} {c : Value} (hu : P.underlying t = some (.slice e)) (he : P.underlying e = some (.int .i64)) (hc : P.cellsOf e = 1) (hby : P.bytesOf e = 8)
    (h : Fld enc P W r base b0 sp held t c) : ∃ L : List Int, RdI W c L ∧ L.length ≤ 17592186044416 ∧ ∀ z ∈ L, Fits z := by
  obtain ⟨fuel, x, hf, hw⟩ := h.read
  exact ints_of hu he hc hby (cell_slice hu h.ok) hf hw
theorem words_of {t e : TypeId} {v : Value} {fuel : Nat} {x : DataW H × List MemPlace} (hu : P.underlying t = some (.slice e)) (he : P.underlying e = some (.int .u64)) (hc : P.cellsOf e = 1) (hby : P.bytesOf e = 8)
    (hok : v = .slice none 0 0 ∨ ∃ b o n c, v = .slice (some ⟨b, o, none⟩) n c ∧ n ≤ c) (hf : DataW.trod enc P W b0 sp held fuel t [v] = some x) (hw : (DataW.weights P t x.1).all (· ≤ reachBytes) = true) :
    ∃ L : List (BitVec 64), RdW W v L ∧ L.length ≤ 17592186044416 := by
  rcases hok with rfl | ⟨b, o, n, c, rfl, hnc⟩
  · exact ⟨[], Rd.nil W 1, by simp⟩
  · rcases open_ints hu he hc hf with ⟨h0, _⟩ | ⟨a, len, cap, zs, h0, _, hl, _, hz, hx, hcell, hwf⟩
    · simp at h0
    · simp only [List.cons.injEq, Value.slice.injEq, Option.some.injEq, and_true] at h0
      obtain ⟨rfl, rfl, rfl⟩ := h0
      have hlen : n ≤ zs.length := by rw [hz]; split <;> omega
      have hln : (zs.take n).length = n := by rw [List.length_take]; omega
      have hxe : x.1 = _ := congrArg Prod.fst hx
      have hdw : zs.length * 8 ≤ reachBytes := by
        have hall := List.all_eq_true.1 hw
        rw [hxe] at hall
        unfold DataW.weights at hall
        rw [hu] at hall
        have := hall _ (List.mem_cons_self ..)
        simp only [decide_eq_true_eq, hby, lits, List.length_map] at this
        rw [← List.length_append, List.take_append_drop] at this
        exact this
      refine ⟨(zs.take n).map (BitVec.ofInt 64), ⟨some ⟨b, o, none⟩, c, by rw [List.length_map, hln], fun j u hj => ?_, by rw [List.length_map, Nat.mul_one], by rw [List.length_map, hln]; exact hnc, (fun h => by cases h), (fun _ a ha => by cases ha; rfl)⟩, ?_⟩
      · rw [List.getElem?_map, List.getElem?_map, List.getElem?_take] at hj
        split at hj
        · rename_i hlt
          refine ⟨b, o, rfl, ?_⟩
          have h1 := hcell j (by omega)
          rw [Addr.add_off] at h1
          rw [h1]
          have hjl : j < zs.length := by omega
          rw [List.getElem?_eq_getElem hjl] at hj
          have hg : zs.getD j 0 = zs[j] := by simp [List.getD, hjl]
          rw [hg]
          obtain ⟨q, hq⟩ := hasU64 (n := zs[j]) (by simpa [Lit.wf, IntKind.has] using hwf _ (List.getElem_mem hjl))
          rw [← hj, hq]; simp
        · cases hj
      · rw [List.length_map, hln]; unfold reachBytes at hdw; omega
theorem Fld.words {t e : TypeId} {c : Value} (hu : P.underlying t = some (.slice e)) (he : P.underlying e = some (.int .u64)) (hc : P.cellsOf e = 1) (hby : P.bytesOf e = 8)
    (h : Fld enc P W r base b0 sp held t c) : ∃ L : List (BitVec 64), RdW W c L ∧ L.length ≤ 17592186044416 := by
  obtain ⟨fuel, x, hf, hw⟩ := h.read
  exact words_of hu he hc hby (cell_slice hu h.ok) hf hw
theorem Fld.bytes {t e : TypeId} {c : Value} (hu : P.underlying t = some (.slice e)) (he : P.underlying e = some (.int .u8)) (hc : P.cellsOf e = 1) (hby : P.bytesOf e = 1)
    (h : Fld enc P W r base b0 sp held t c) : ∃ L : List UInt8, RdB W c L ∧ L.length ≤ 140737488351232 := by
  obtain ⟨fuel, x, hf, hw⟩ := h.read
  have hok := cell_slice hu h.ok
  have hv : c.cells.toList = [c] := by rcases hok with rfl | ⟨_, _, _, _, rfl, _⟩ <;> rfl
  obtain ⟨A, cc, l, rfl, hb, hcc, hm, hz, hp⟩ := arg_byteslice (r := r) (base := base) hu he hc hby (by unfold Value.okWide; rw [hu]; exact h.ok) (⟨fuel, by rw [hv]; exact hf⟩ : DataW.Trod enc P W b0 sp held t c x.1 x.2) hw
  exact ⟨l, Bytes.rd hb hcc hz hp, hm⟩
end
end Go.Wk
set_option linter.unusedVariables false
set_option linter.unusedSimpArgs false
namespace Go.Proofs.YtpihenmdkoojdaaDoor
open Go Go.Wk
open Go.ChangeShapes Go.WideShapes Go.ChangeAt Go.RowKit
section
variable {H : Type} {enc : TypeId × Value → H} {P : Program} {W : World} {r : Reach} {base b0 : Nat} {held : Bool}
theorem all_of {p : Nat → Bool} {e : TypeId} : ∀ {ds : List (DataW H)} {i : Nat} {d : DataW H}, (DataW.weightsAll P e ds).all p = true → ds[i]? = some d → (DataW.weights P e d).all p = true
  | d' :: ds, 0, d, h, hd => by
    simp only [DataW.weightsAll, List.all_append, Bool.and_eq_true] at h
    obtain rfl : d' = d := by simpa using hd
    exact h.1
  | d' :: ds, i + 1, d, h, hd => by
    simp only [DataW.weightsAll, List.all_append, Bool.and_eq_true] at h
    exact all_of h.2 (by simpa using hd)
  | [], i, d, h, hd => by simp at hd
/-- What a cell reads as, wherever it stands. -/
def Fl (enc : TypeId × Value → H) (P : Program) (W : World) (b0 : Nat) (held : Bool) (t : TypeId) (c : Value) : Prop :=
  ∃ fuel x, DataW.trod enc P W b0 (fun _ => true) held fuel t [c] = some x ∧ (DataW.weights P t x.1).all (· ≤ reachBytes) = true
theorem Fl.int {t : TypeId} {c : Value} (u : P.underlying t = some (.int .i64)) (h : Fl enc P W b0 held t c) : ∃ n, c = .int .i64 n ∧ Fits n := by
  obtain ⟨fuel, x, hf, _⟩ := h
  obtain ⟨n, g, _, w⟩ := DataW.trod_int u hf
  exact ⟨n, by simpa using g, has64 (by simpa [Lit.wf, IntKind.has] using w)⟩
theorem Fl.word {t : TypeId} {c : Value} (u : P.underlying t = some (.int .u64)) (h : Fl enc P W b0 held t c) : ∃ x, c = b64 x := by
  obtain ⟨fuel, x, hf, _⟩ := h
  obtain ⟨n, g, _, w⟩ := DataW.trod_int u hf
  obtain ⟨x, rfl⟩ := hasU64 (n := n) (by simpa [Lit.wf, IntKind.has] using w)
  exact ⟨x, by simpa using g⟩
theorem Fl.nums {t e : TypeId} {k : IntKind} {c : Value} (hu : P.underlying t = some (.slice e)) (he : P.underlying e = some (.int k)) (hc : P.cellsOf e = 1) (h : Fl enc P W b0 held t c) :
    ∃ zs : List Int, Rd W c 1 zs.length (zs.map (Value.int k)) ∧ zs.length * P.bytesOf e ≤ reachBytes ∧ ∀ z ∈ zs, (Lit.int k z).wf = true := by
  obtain ⟨fuel, x, hf, hw⟩ := h
  rcases open_ints hu he hc hf with ⟨h0, _⟩ | ⟨a, len, cap, zs, h0, _, hl, _, hz, hx, hcell, hwf⟩
  · obtain rfl : c = .slice none 0 0 := by simpa using h0
    exact ⟨[], Rd.nil W 1, by simp, by simp⟩
  · obtain rfl : c = .slice (some a) len cap := by simpa using h0
    simp only [if_true] at hz
    have hxe : x.1 = _ := congrArg Prod.fst hx
    have hdw : zs.length * P.bytesOf e ≤ reachBytes := by
      have hall := List.all_eq_true.1 hw
      rw [hxe] at hall
      unfold DataW.weights at hall
      rw [hu] at hall
      have := hall _ (List.mem_cons_self ..)
      simp only [decide_eq_true_eq, lits, List.length_map] at this
      rw [← List.length_append, List.take_append_drop] at this
      exact this
    have hln : (zs.take len).length = len := by rw [List.length_take]; omega
    have hsp : ∀ j, j < zs.length → a.spot = none := fun j hj => by
      have := World.cell?_spot (hcell 0 (by omega))
      simpa [Addr.add] using this
    refine ⟨zs.take len, ⟨some a, cap, by rw [hln], fun j u hj => ?_, by rw [List.length_map, Nat.mul_one], by omega, (fun h => by cases h), (fun hc0 a' ha => by cases ha; exact hsp 0 (by omega))⟩, Nat.le_trans (Nat.mul_le_mul_right _ (by omega)) hdw, fun z hm => hwf z (List.mem_of_mem_take hm)⟩
    rw [List.getElem?_map, List.getElem?_take] at hj
    split at hj
    · rename_i hlt
      have hjl : j < zs.length := by omega
      have hs := hsp j hjl
      obtain ⟨b, o, s⟩ := a
      have hs' : s = none := hs
      subst hs'
      refine ⟨b, o, rfl, ?_⟩
      have h1 := hcell j hjl
      rw [Addr.add_off] at h1
      rw [h1, ← hj, List.getElem?_eq_getElem hjl]
      simp [List.getD, hjl]
    · cases hj
theorem Fl.ints {t e : TypeId} {c : Value} (hu : P.underlying t = some (.slice e)) (he : P.underlying e = some (.int .i64)) (hc : P.cellsOf e = 1) (hby : P.bytesOf e = 8) (h : Fl enc P W b0 held t c) :
    ∃ L : List Int, RdI W c L ∧ L.length ≤ 17592186044416 := by
  obtain ⟨zs, h1, h2, _⟩ := Fl.nums hu he hc h
  rw [hby] at h2
  unfold reachBytes at h2
  exact ⟨zs, h1, by omega⟩
theorem Fl.bytes {t e : TypeId} {c : Value} (hu : P.underlying t = some (.slice e)) (he : P.underlying e = some (.int .u8)) (hc : P.cellsOf e = 1) (hby : P.bytesOf e = 1) (h : Fl enc P W b0 held t c) :
    ∃ L : List UInt8, RdB W c L ∧ L.length ≤ 140737488355328 := by
  obtain ⟨zs, h1, h2, h3⟩ := Fl.nums hu he hc h
  rw [hby] at h2
  unfold reachBytes at h2
  have he : zs.map (Value.int .u8) = (zs.map (fun z => UInt8.ofNat z.toNat)).map bv := by
    rw [List.map_map]
    refine List.map_congr_left fun z hz => ?_
    obtain ⟨q, rfl⟩ := hasU8 (n := z) (by simpa [Lit.wf, IntKind.has] using h3 z hz)
    simp [bv]
  refine ⟨zs.map (fun z => UInt8.ofNat z.toNat), ?_, by rw [List.length_map]; omega⟩
  unfold RdB
  rw [List.length_map, ← he]
  exact h1
/-- What a list of elements holds, element by element. -/
theorem elems_of {t e : TypeId} {v : Value} {fuel n : Nat} {x : DataW H × List MemPlace} (hu : P.underlying t = some (.slice e)) (hc : P.cellsOf e = n)
    (hf : DataW.trod enc P W b0 (fun _ => true) held fuel t [v] = some x) (hw : (DataW.weights P t x.1).all (· ≤ reachBytes) = true) :
    v = .slice none 0 0 ∨ ∃ a len cap, v = .slice (some a) len cap ∧ len ≤ cap ∧ len * P.bytesOf e ≤ reachBytes ∧ ∀ i, i < len → ∃ cs fuel y, cs.length = n ∧ (∀ j, j < n → W.cell? ((a.add (i * n)).add j) = cs[j]?) ∧ DataW.trod enc P W b0 (fun _ => true) held fuel e cs = some y ∧ (DataW.weights P e y.1).all (· ≤ reachBytes) = true := by
  rcases DataW.trod_slice hu hf with ⟨h0, _⟩ | ⟨a, len, cap, elems, rest, m, _, h0, rfl, hb, hl, hm, hlen, hel, hsp, hns⟩
  · left; simpa using h0
  · right
    refine ⟨a, len, cap, by simpa using h0, hl, ?_, fun i hi => ?_⟩
    · have hall := List.all_eq_true.1 hw
      unfold DataW.weights at hall
      rw [hu] at hall
      have := hall _ (List.mem_cons_self ..)
      simp only [decide_eq_true_eq, List.length_map, hlen] at this
      exact Nat.le_trans (Nat.mul_le_mul_right _ (Nat.le_add_right _ _)) this
    · have h1 := hel i hi
      rw [hc, List.getElem?_eq_getElem (by omega), Option.bind_eq_some_iff] at h1
      obtain ⟨cs, h2, h3⟩ := h1
      have h4 := World.cells?_some h2
      refine ⟨cs, m, _, h4.2.1, h4.2.2, h3, ?_⟩
      · unfold DataW.weights at hw
        rw [hu] at hw
        simp only [List.all_cons, List.all_append, Bool.and_eq_true] at hw
        exact all_of (i := i) hw.2.1 (by rw [List.getElem?_map, List.getElem?_eq_getElem (show i < elems.length by omega)]; rfl)
end
section
variable {H : Type} {enc : TypeId × Value → H} {P : Program} {W : World} {base b0 : Nat} {held : Bool}
/-- What cells in a row read as. -/
def FlL (enc : TypeId × Value → H) (P : Program) (W : World) (b0 : Nat) (held : Bool) (t : TypeId) (cs : List Value) : Prop :=
  ∃ fuel x, DataW.trod enc P W b0 (fun _ => true) held fuel t cs = some x ∧ (DataW.weights P t x.1).all (· ≤ reachBytes) = true
theorem flL_field {t u : TypeId} {fs : Array Field} {cs : List Value} {i o n : Nat} {f : Field} (ht : P.underlying t = some (.struct fs)) (h : FlL enc P W b0 held t cs) (hfi : fs[i]? = some f) (ho : f.offset = o) (hu : f.type = u) (hn : P.cellsOf u = n) : FlL enc P W b0 held u ((cs.drop o).take n) := by
  obtain ⟨fuel, x, hf, hw⟩ := h
  obtain ⟨xs, m, rfl, hx, _, hsz, hfl⟩ := DataW.trod_struct ht hf
  have h1 := hfl i f hfi
  rw [ho, hu, hn] at h1
  have hil : i < fs.size := (Array.getElem?_eq_some_iff.1 hfi).1
  have hxl : i < xs.length := by rw [hsz]; exact hil
  rw [List.getElem?_eq_getElem hxl] at h1
  refine ⟨m, _, h1, ?_⟩
  have hxe : x.1 = _ := congrArg Prod.fst hx
  rw [hxe] at hw
  unfold DataW.weights at hw
  rw [ht] at hw
  refine each_of hw (i := i) ?_ (by rw [List.getElem?_map, List.getElem?_eq_getElem hxl]; rfl)
  rw [List.getElem?_map, Array.getElem?_toList, hfi]
  exact congrArg some hu
theorem slice_spot {t e : TypeId} {fuel n len cap : Nat} {a : Addr} {x : DataW H × List MemPlace} (hu : P.underlying t = some (.slice e)) (hc : P.cellsOf e = n) (hn : 0 < n) (hf : DataW.trod enc P W b0 (fun _ => true) held fuel t [.slice (some a) len cap] = some x) (h0 : 0 < cap) : a.spot = none := by
  rcases DataW.trod_slice hu hf with ⟨h, _⟩ | ⟨a', len', cap', elems, rest, m, _, h1, rfl, hb, hl, hm, hlen, hel, hsp, hns⟩
  · simp at h
  · simp only [List.cons.injEq, Value.slice.injEq, Option.some.injEq, and_true] at h1
    obtain ⟨rfl, rfl, rfl⟩ := h1
    have key : ∀ y, (W.cells? b0 (a.add (0 * P.cellsOf e)) (P.cellsOf e)).bind (DataW.trod enc P W b0 (fun _ => true) held m e) = some y → a.spot = none := fun y hy => by
      rw [hc, Option.bind_eq_some_iff] at hy
      obtain ⟨cs, h2, _⟩ := hy
      have h4 := World.cells?_some h2
      have h5 := h4.2.2 0 hn
      rw [List.getElem?_eq_getElem (by rw [h4.2.1]; exact hn)] at h5
      have := World.cell?_spot h5
      simpa [Addr.add] using this
    rcases Nat.eq_zero_or_pos len with h | h
    · obtain ⟨g1, g2⟩ := hsp rfl
      have g3 := g2 0 (by omega)
      obtain ⟨y, hy⟩ : ∃ y, rest[0]? = some y := ⟨_, List.getElem?_eq_getElem (by omega)⟩
      rw [hy, h, Nat.zero_add] at g3
      exact key _ g3
    · have g3 := hel 0 h
      rw [List.getElem?_eq_getElem (by omega)] at g3
      exact key _ g3
theorem Fl.spans {t e ti : TypeId} {fs : Array Field} {f0 f1 : Field} {c : Value} (hu : P.underlying t = some (.slice e)) (he : P.underlying e = some (.struct fs)) (hc : P.cellsOf e = 2) (hby : P.bytesOf e = 16)
    (hf0 : fs[0]? = some f0) (hf1 : fs[1]? = some f1) (o0 : f0.offset = 0) (o1 : f1.offset = 1) (t0 : f0.type = ti) (t1 : f1.type = ti) (ui : P.underlying ti = some (.int .i64)) (ci : P.cellsOf ti = 1) (h : Fl enc P W b0 held t c) :
    ∃ L : List (Int × Int), RdS W c L ∧ L.length ≤ 8796093022144 := by
  obtain ⟨fuel, x, hf, hw⟩ := h
  rcases elems_of (n := 2) hu hc hf hw with rfl | ⟨a, len, cap, rfl, hlc, hb, hel⟩
  · exact ⟨[], Rd.nil W 2, by simp⟩
  · rw [hby] at hb
    unfold reachBytes at hb
    obtain ⟨L, hLl, hL⟩ := choose_list' (Q := fun j (z : Int × Int) => W.cell? ((a.add (j * 2)).add 0) = some (.int .i64 z.1) ∧ W.cell? ((a.add (j * 2)).add 1) = some (.int .i64 z.2)) len (fun j hj => by
      obtain ⟨cs, fu, y, h1, h2, h3, h4⟩ := hel j hj
      obtain ⟨c0, c1, rfl⟩ : ∃ c0 c1, cs = [c0, c1] := by match cs, h1 with | [c0, c1], _ => exact ⟨c0, c1, rfl⟩
      obtain ⟨n0, rfl, _⟩ := Fl.int ui (flL_field he ⟨fu, y, h3, h4⟩ hf0 o0 t0 ci)
      obtain ⟨n1, rfl, _⟩ := Fl.int ui (flL_field he ⟨fu, y, h3, h4⟩ hf1 o1 t1 ci)
      exact ⟨(n0, n1), h2 0 (by decide), h2 1 (by decide)⟩)
    subst hLl
    have hsp : 0 < cap → a.spot = none := slice_spot hu hc (by decide) hf
    refine ⟨L, ⟨some a, cap, rfl, fun j u hj => ?_, prS_length L, hlc, (fun h => by cases h), (fun hc0 a' ha => by cases ha; exact hsp hc0)⟩, by omega⟩
    have hjl : j < L.length * 2 := by rw [← prS_length L]; exact (List.getElem?_eq_some_iff.1 hj).1
    have hq : L[j / 2]? = some (L[j / 2]'(by omega)) := List.getElem?_eq_getElem _
    have hz := hL (j / 2) _ hq
    have hp := prS_at hq
    have hs := hsp (by omega)
    obtain ⟨b, o, s⟩ := a
    have hs' : s = none := hs
    subst hs'
    refine ⟨b, o, rfl, ?_⟩
    rcases Nat.mod_two_eq_zero_or_one j with hm | hm
    · have e : j / 2 * 2 = j := by omega
      rw [e] at hp hz
      rw [hj] at hp
      rw [Option.some.inj hp.1]
      have := hz.1
      rwa [Addr.add_off, Addr.add_off, Nat.add_zero] at this
    · have e : j / 2 * 2 + 1 = j := by omega
      rw [e] at hp
      rw [hj] at hp
      rw [Option.some.inj hp.2]
      have := hz.2
      rwa [Addr.add_off, Addr.add_off, Nat.add_assoc, e] at this
end
section
variable {H : Type} {enc : TypeId × Value → H} {P : Program} {W : World} {base b0 : Nat} {held : Bool}
theorem Fl.bools {t e : TypeId} {c : Value} (hu : P.underlying t = some (.slice e)) (he : P.underlying e = some .bool) (hc : P.cellsOf e = 1) (hby : P.bytesOf e = 1) (h : Fl enc P W b0 held t c) :
    ∃ L : List Bool, Rd W c 1 L.length (L.map Value.bool) ∧ L.length ≤ 140737488355328 := by
  obtain ⟨fuel, x, hf, hw⟩ := h
  rcases elems_of (n := 1) hu hc hf hw with rfl | ⟨a, len, cap, rfl, hlc, hb, hel⟩
  · exact ⟨[], Rd.nil W 1, by simp⟩
  · rw [hby] at hb
    unfold reachBytes at hb
    obtain ⟨L, hLl, hL⟩ := choose_list' (Q := fun j (z : Bool) => W.cell? ((a.add (j * 1)).add 0) = some (.bool z)) len (fun j hj => by
      obtain ⟨cs, fu, y, h1, h2, h3, h4⟩ := hel j hj
      obtain ⟨c0, rfl⟩ : ∃ c0, cs = [c0] := by match cs, h1 with | [c0], _ => exact ⟨c0, rfl⟩
      obtain ⟨b, g, _⟩ := DataW.trod_bool he h3
      obtain rfl : c0 = .bool b := by simpa using g
      exact ⟨b, h2 0 (by decide)⟩)
    subst hLl
    have hsp : 0 < cap → a.spot = none := slice_spot hu hc (by decide) hf
    refine ⟨L, ⟨some a, cap, rfl, fun j u hj => ?_, by rw [List.length_map, Nat.mul_one], hlc, (fun h => by cases h), (fun hc0 a' ha => by cases ha; exact hsp hc0)⟩, by omega⟩
    have hjl : j < L.length := by have := (List.getElem?_eq_some_iff.1 hj).1; rwa [List.length_map] at this
    have hq : L[j]? = some (L[j]'hjl) := List.getElem?_eq_getElem _
    have hz := hL j _ hq
    rw [List.getElem?_map, hq] at hj
    obtain rfl := Option.some.inj hj
    have hs := hsp (by omega)
    obtain ⟨b, o, s⟩ := a
    have hs' : s = none := hs
    subst hs'
    refine ⟨b, o, rfl, ?_⟩
    rwa [Addr.add_off, Addr.add_off, Nat.add_zero, Nat.mul_one] at hz
theorem Fl.pairs {t e ti tu : TypeId} {fs : Array Field} {f0 f1 : Field} {c : Value} (hu : P.underlying t = some (.slice e)) (he : P.underlying e = some (.struct fs)) (hc : P.cellsOf e = 2) (hby : P.bytesOf e = 16)
    (hf0 : fs[0]? = some f0) (hf1 : fs[1]? = some f1) (o0 : f0.offset = 0) (o1 : f1.offset = 1) (t0 : f0.type = ti) (t1 : f1.type = tu) (ui : P.underlying ti = some (.int .i64)) (uu : P.underlying tu = some (.int .u64)) (ci : P.cellsOf ti = 1) (cu : P.cellsOf tu = 1) (h : Fl enc P W b0 held t c) :
    ∃ L : List (Int × BitVec 64), RdP W c L ∧ L.length ≤ 8796093022208 := by
  obtain ⟨fuel, x, hf, hw⟩ := h
  rcases elems_of (n := 2) hu hc hf hw with rfl | ⟨a, len, cap, rfl, hlc, hb, hel⟩
  · exact ⟨[], Rd.nil W 2, by simp⟩
  · rw [hby] at hb
    unfold reachBytes at hb
    obtain ⟨L, hLl, hL⟩ := choose_list' (Q := fun j (z : Int × BitVec 64) => W.cell? ((a.add (j * 2)).add 0) = some (.int .i64 z.1) ∧ W.cell? ((a.add (j * 2)).add 1) = some (b64 z.2)) len (fun j hj => by
      obtain ⟨cs, fu, y, h1, h2, h3, h4⟩ := hel j hj
      obtain ⟨c0, c1, rfl⟩ : ∃ c0 c1, cs = [c0, c1] := by match cs, h1 with | [c0, c1], _ => exact ⟨c0, c1, rfl⟩
      obtain ⟨n0, rfl, _⟩ := Fl.int ui (flL_field he ⟨fu, y, h3, h4⟩ hf0 o0 t0 ci)
      obtain ⟨n1, rfl⟩ := Fl.word uu (flL_field he ⟨fu, y, h3, h4⟩ hf1 o1 t1 cu)
      exact ⟨(n0, n1), h2 0 (by decide), h2 1 (by decide)⟩)
    subst hLl
    have hsp : 0 < cap → a.spot = none := slice_spot hu hc (by decide) hf
    refine ⟨L, ⟨some a, cap, rfl, fun j u hj => ?_, prC_length L, hlc, (fun h => by cases h), (fun hc0 a' ha => by cases ha; exact hsp hc0)⟩, by omega⟩
    have hjl : j < L.length * 2 := by rw [← prC_length L]; exact (List.getElem?_eq_some_iff.1 hj).1
    have hq : L[j / 2]? = some (L[j / 2]'(by omega)) := List.getElem?_eq_getElem _
    have hz := hL (j / 2) _ hq
    have hp := prC_at hq
    have hs := hsp (by omega)
    obtain ⟨b, o, s⟩ := a
    have hs' : s = none := hs
    subst hs'
    refine ⟨b, o, rfl, ?_⟩
    rcases Nat.mod_two_eq_zero_or_one j with hm | hm
    · have e : j / 2 * 2 = j := by omega
      rw [e] at hp hz
      rw [hj] at hp
      rw [Option.some.inj hp.1]
      have := hz.1
      rwa [Addr.add_off, Addr.add_off, Nat.add_zero] at this
    · have e : j / 2 * 2 + 1 = j := by omega
      rw [e] at hp
      rw [hj] at hp
      rw [Option.some.inj hp.2]
      have := hz.2
      rwa [Addr.add_off, Addr.add_off, Nat.add_assoc, e] at this
end
section
variable {H : Type} {enc : TypeId × Value → H} {W : World} {base b0 : Nat} {held : Bool}
set_option maxRecDepth 100000 in
theorem arg_case {r : Reach} {v : Value} {d : DataW H} {ps : List MemPlace} (h : Value.okWide Tryd.prog W r base 26 v) (hd : DataW.Trod enc Tryd.prog W b0 (fun _ => true) held 26 v d ps) (hw : (DataW.weights Tryd.prog 26 d).all (· ≤ reachBytes) = true) :
    ∃ (pg ino co lf : Int) (vM vW vL : Value) (MS : List Bool) (WS : List (Int × BitVec 64)) (cs : List Int), v = .agg #[.int .i64 pg, .int .i64 ino, .int .i64 co, vM, vW, .int .i64 lf, vL] ∧ Rd W vM 1 MS.length (MS.map Value.bool) ∧ MS.length ≤ 140737488355328 ∧ RdP W vW WS ∧ WS.length ≤ 8796093022208 ∧ RdI W vL cs ∧ cs.length ≤ 17592186044416 ∧ (-9223372036854775808 ≤ lf ∧ lf ≤ 9223372036854775807) := by
  obtain ⟨fuel, hf⟩ := hd
  have U := Tryd.underlying26
  obtain ⟨cs, rfl, hl, _⟩ := arg_struct U h
  rw [show Tryd.prog.cellsOf 26 = 7 by kernel_rfl] at hl
  have hcs : (Value.agg cs.toArray).cells.toList = cs := by simp [Value.cells]
  rw [hcs] at hf
  obtain ⟨c0, c1, c2, c3, c4, c5, c6, rfl⟩ : ∃ c0 c1 c2 c3 c4 c5 c6, cs = [c0, c1, c2, c3, c4, c5, c6] := by
    match cs, hl with
    | [c0, c1, c2, c3, c4, c5, c6], _ => exact ⟨c0, c1, c2, c3, c4, c5, c6, rfl⟩
  have hr : FlL enc Tryd.prog W b0 held 26 [c0, c1, c2, c3, c4, c5, c6] := ⟨fuel, _, hf, hw⟩
  obtain ⟨pg, rfl, _⟩ := Fl.int Tryd.underlying3 (flL_field (i := 0) (o := 0) (n := 1) (u := 3) U hr rfl rfl rfl (by kernel_rfl))
  obtain ⟨ino, rfl, _⟩ := Fl.int Tryd.underlying3 (flL_field (i := 1) (o := 1) (n := 1) (u := 3) U hr rfl rfl rfl (by kernel_rfl))
  obtain ⟨co, rfl, _⟩ := Fl.int Tryd.underlying3 (flL_field (i := 2) (o := 2) (n := 1) (u := 3) U hr rfl rfl rfl (by kernel_rfl))
  obtain ⟨lM, hM, hMl⟩ := Fl.bools Tryd.underlying22 Tryd.underlying4 (by kernel_rfl) (by kernel_rfl) (flL_field (i := 3) (o := 3) (n := 1) (u := 22) U hr rfl rfl rfl (by kernel_rfl))
  obtain ⟨lW, hW, hWl⟩ := Fl.pairs (ti := 3) (tu := 65) Tryd.underlying23 Tryd.underlying67 (by kernel_rfl) (by kernel_rfl) rfl rfl rfl rfl rfl rfl Tryd.underlying3 Tryd.underlying65 (by kernel_rfl) (by kernel_rfl) (flL_field (i := 4) (o := 4) (n := 1) (u := 23) U hr rfl rfl rfl (by kernel_rfl))
  obtain ⟨lf, rfl, hlf⟩ := Fl.int Tryd.underlying3 (flL_field (i := 5) (o := 5) (n := 1) (u := 3) U hr rfl rfl rfl (by kernel_rfl))
  obtain ⟨lI, hI, hIl⟩ := Fl.ints Tryd.underlying24 Tryd.underlying3 (by kernel_rfl) (by kernel_rfl) (flL_field (i := 6) (o := 6) (n := 1) (u := 24) U hr rfl rfl rfl (by kernel_rfl))
  exact ⟨pg, ino, co, lf, c3, c4, c6, lM, lW, lI, rfl, hM, hMl, hW, hWl, hI, hIl, hlf⟩
end
end Go.Proofs.YtpihenmdkoojdaaDoor
