/- PmemFenced: the walk. -/
import Derived.Test.YtgighokkflchmaaQ1
set_option linter.unusedVariables false
set_option linter.unusedSimpArgs false
namespace Go.Proofs.Ytgighokkflchmaa
open Go Go.Wk

theorem flushK_at {σ : Ds} {f k : Nat} {w : Wd} (h : σ.ws[k]? = some w) : ∀ j, ∃ m, (flushK σ f j).ws[k]? = some { w with mark := m } ∧ (f ≤ k → k < f + j → m = w.news.length) ∧ (¬ (f ≤ k ∧ k < f + j) → m = w.mark)
  | 0 => ⟨w.mark, h, fun h1 h2 => by omega, fun _ => rfl⟩
  | j + 1 => by
    obtain ⟨m, h1, h2, h3⟩ := flushK_at h j
    by_cases e : f + j = k
    · subst e
      rw [flushK_succ h1]
      exact ⟨w.news.length, by unfold setD; simp only; rw [List.getElem?_set_self (List.getElem?_eq_some_iff.1 h1).1]; rfl, fun _ _ => rfl, fun hn => absurd ⟨by omega, by omega⟩ hn⟩
    · cases hq : (flushK σ f j).ws[f + j]? with
      | none =>
        unfold flushK; rw [hq]
        exact ⟨m, h1, fun a b => h2 a (by omega), fun hn => h3 (fun ⟨a, b⟩ => hn ⟨a, by omega⟩)⟩
      | some u =>
        rw [flushK_succ hq]
        exact ⟨m, by unfold setD; simp only; rw [List.getElem?_set_ne e]; exact h1, fun a b => h2 a (by omega), fun hn => h3 (fun ⟨a, b⟩ => hn ⟨a, by omega⟩)⟩
theorem fenceD_at {σ : Ds} {k : Nat} {w : Wd} (h : σ.ws[k]? = some w) : (fenceD σ).ws[k]? = some (fenceW w) := by unfold fenceD; simp [h]
theorem setD_at {σ : Ds} {k j : Nat} {w u : Wd} (h : σ.ws[j]? = some w) (hne : k ≠ j) : (setD σ k u).ws[j]? = some w := by unfold setD; simp only; rw [List.getElem?_set_ne hne]; exact h
theorem setD_self {σ : Ds} {k : Nat} {w u : Wd} (h : σ.ws[k]? = some w) : (setD σ k u).ws[k]? = some u := by unfold setD; simp only; rw [List.getElem?_set_self (List.getElem?_eq_some_iff.1 h).1]
/-- A word that is settled stays so while nothing is stored in it. -/
def FK (N K : Nat) (x : BitVec 64) (n : Nat) (σ : Ds) : Prop := σ.ws.length = N ∧ σ.armed = false ∧ σ.steps ≤ n ∧ ∃ w, σ.ws[K]? = some w ∧ w.old = x ∧ w.news = [] ∧ w.mark = 0
theorem fk_more {N K n m : Nat} {x : BitVec 64} {σ : Ds} (h : FK N K x n σ) (hm : n ≤ m) : FK N K x m σ := ⟨h.1, h.2.1, Nat.le_trans h.2.2.1 hm, h.2.2.2⟩
theorem fk_note {N K n : Nat} {x : BitVec 64} {σ : Ds} {c : Nt} (hN : 0 < N) (h : FK N K x n σ) (hc : c.1 ≠ 1 ∨ wordI c.2.1 N ≠ K) : FK N K x (n + 1) (noteD N σ c) := by
  obtain ⟨h1, h2, h3, w, hw, ho, hn, hm⟩ := h
  obtain ⟨g1, g2, _, g4⟩ := noteD_rest c hN h1
  refine ⟨g4, g2.trans h2, by omega, ?_⟩
  unfold noteD
  split
  · rename_i h1c
    obtain ⟨u, hu⟩ : ∃ u, σ.ws[wordI c.2.1 N]? = some u := ⟨_, List.getElem?_eq_getElem (by rw [h1]; exact wordI_lt _ hN)⟩
    rw [hu]
    exact ⟨w, setD_at (σ := stepD σ) hw (by omega), ho, hn, hm⟩
  · split
    · obtain ⟨m, hm1, hm2, hm3⟩ := flushK_at (σ := stepD σ) (f := 8 * (wordI c.2.1 N / 8)) hw 8
      refine ⟨_, hm1, ho, hn, ?_⟩
      show m = 0
      by_cases e : 8 * (wordI c.2.1 N / 8) ≤ K ∧ K < 8 * (wordI c.2.1 N / 8) + 8
      · rw [hm2 e.1 e.2, hn]; rfl
      · rw [hm3 e, hm]
    · exact ⟨_, fenceD_at (σ := stepD σ) hw, by rw [fenceW_calm hm]; exact ho, by rw [fenceW_calm hm]; exact hn, by rw [fenceW_calm hm]; exact hm⟩
/-- Stored, flushed, fenced: settled. -/
theorem fk_made {N K n : Nat} {x : BitVec 64} {σ : Ds} {wd : Wd} (hl : σ.ws.length = N) (ha : σ.armed = false) (hst : σ.steps ≤ n) (hk : σ.ws[K]? = some wd) :
    FK N K x (n + 3) (fenceD (stepD (flushK (stepD (setD (stepD σ) K (pushW wd x))) (8 * (K / 8)) 8))) := by
  have a1 : (setD (stepD σ) K (pushW wd x)).ws.length = N := by simpa [setD, stepD] using hl
  have a2 : (setD (stepD σ) K (pushW wd x)).armed = false := ha
  have a3 : (setD (stepD σ) K (pushW wd x)).steps = σ.steps + 1 := rfl
  have a4 : (setD (stepD σ) K (pushW wd x)).ws[K]? = some (pushW wd x) := setD_self (σ := stepD σ) hk
  generalize setD (stepD σ) K (pushW wd x) = s1 at *
  obtain ⟨e1, e2, _, e4, _⟩ := flushK_rest (stepD s1) (8 * (K / 8)) 8
  obtain ⟨m, h1, h2, _⟩ := flushK_at (σ := stepD s1) (f := 8 * (K / 8)) a4 8
  have hm : m = wd.news.length + 1 := by rw [h2 (by omega) (by omega)]; simp [pushW]
  have e1' : (stepD s1).steps = s1.steps + 1 := rfl
  have e2' : (stepD s1).armed = s1.armed := rfl
  have e4' : (stepD s1).ws.length = s1.ws.length := rfl
  generalize flushK (stepD s1) (8 * (K / 8)) 8 = s3 at *
  have h3 := fenceD_at (σ := stepD s3) h1
  have hf : fenceW { pushW wd x with mark := m } = ⟨x, [], 0⟩ := by
    unfold fenceW; rw [if_neg (by simp only; omega), hm]; simp [pushW]
  rw [hf] at h3
  refine ⟨?_, ?_, ?_, _, h3, rfl, rfl, rfl⟩
  · have : (fenceD (stepD s3)).ws.length = s3.ws.length := List.length_map ..
    omega
  · have : (fenceD (stepD s3)).armed = s3.armed := rfl
    rw [this, e2, e2', a2]
  · have : (fenceD (stepD s3)).steps = s3.steps + 1 := rfl
    omega
theorem take_succ_of_get {α : Type} {l : List α} {k : Nat} {x : α} (h : l[k]? = some x) : l.take (k + 1) = l.take k ++ [x] := by rw [List.take_add_one, h]; rfl
theorem loadWs_at {l : List UInt8} {K : Nat} (h : 8 * K + 8 ≤ l.length) : (loadD l).ws[K]? = some ⟨wdA l (8 * K), [], 0⟩ := by
  unfold loadD loadWs; simp only; rw [List.getElem?_map, List.getElem?_range (by omega)]; rfl
theorem zeroD_len (N : Nat) : (zeroD N).ws.length = N := by simp [zeroD, wz]
theorem take_until {L : List Nt} {k : Nat} (h : k ≤ L.length) (h4 : k ≤ 400) (hn : ¬ (k < L.length ∧ k < 400)) : L.take k = L.take 400 := by
  rcases Nat.lt_or_ge k L.length with h1 | h1
  · have : k = 400 := by omega
    rw [this]
  · rw [List.take_of_length_le h1, List.take_of_length_le (by omega)]

end Go.Proofs.Ytgighokkflchmaa
