/- The two devices answer alike: the plain law. -/
import Derived.Test.YtkpbpeajkfgfiaaR3
import Derived.Test.YtkpbpeajkfgfiaaP11
import Derived.Test.YtkpbpeajkfgfiaaQ2
set_option linter.unusedVariables false
set_option linter.unusedSimpArgs false
namespace Go.Proofs.Ytkpbpeajkfgfiaa
open Go Go.Wk

theorem fold_last {α β : Type} (p : α → Bool) (f : α → β) : ∀ (l : List α) (v0 : β), l.foldl (fun o c => if p c = true then f c else o) v0 = ((l.filter p).getLast?.map f).getD v0
  | [], v0 => rfl
  | c :: l, v0 => by
    rw [List.foldl_cons, fold_last p f l]
    cases h : p c with
    | true =>
      rw [List.filter_cons_of_pos h, if_pos rfl, List.getLast?_cons]
      cases (l.filter p).getLast? <;> rfl
    | false =>
      rw [List.filter_cons_of_neg (by rw [h]; simp), if_neg (by simp)]
abbrev Put := Nat × BitVec 64 × Nat
def pj (j : Nat) (l : List Put) : List (BitVec 64 × Nat) := (l.filter fun c => decide (c.1 = j)).map Prod.snd
theorem pj_yes {j : Nat} {l : List Put} {c : Put} (h : c.1 = j) : pj j (l ++ [c]) = pj j l ++ [c.2] := by
  unfold pj; rw [List.filter_append, List.map_append, List.filter_cons_of_pos (p := fun c : Put => decide (c.1 = j)) (decide_eq_true h), List.filter_nil]; rfl
theorem pj_no {j : Nat} {l : List Put} {c : Put} (h : c.1 ≠ j) : pj j (l ++ [c]) = pj j l := by
  unfold pj; rw [List.filter_append, List.map_append, List.filter_cons_of_neg (by rw [decide_eq_false h]; simp), List.filter_nil]; exact List.append_nil _
theorem pj_mem {j : Nat} {l : List Put} {x : BitVec 64 × Nat} (h : x ∈ pj j l) : ∃ c ∈ l, c.2 = x := by
  unfold pj at h
  obtain ⟨c, hc, rfl⟩ := List.mem_map.1 h
  exact ⟨c, (List.mem_filter.1 hc).1, rfl⟩
theorem pj_filter (j : Nat) (l : List Put) (p : BitVec 64 × Nat → Bool) : (pj j l).filter p = (l.filter fun c => decide (c.1 = j) && p c.2).map Prod.snd := by
  unfold pj
  rw [List.filter_map, List.filter_filter]
  congr 1
  apply List.filter_congr
  intro c _
  exact Bool.and_comm _ _
theorem map_last {α β : Type} (f : α → β) (l : List α) : (l.map f).getLast? = l.getLast?.map f := List.getLast?_map ..
theorem oldF_pj (j t : Nat) (v0 : BitVec 64) (l : List Put) : oldF j t v0 l = (((pj j l).filter fun x => decide (x.2 < t)).getLast?.map Prod.fst).getD v0 := by
  have h := fold_last (fun c : Put => decide (c.1 = j) && decide (c.2.2 < t)) (fun c => c.2.1) l v0
  rw [pj_filter, map_last, Option.map_map]
  show oldF j t v0 l = ((l.filter fun c => decide (c.1 = j) && decide (c.2.2 < t)).getLast?.map (fun c => c.2.1)).getD v0
  rw [← h]
  unfold oldF
  congr 1
  funext o c
  simp only [Bool.and_eq_true, decide_eq_true_eq]
theorem nowF_pj (j : Nat) (v0 : BitVec 64) (l : List Put) : nowF j v0 l = ((pj j l).getLast?.map Prod.fst).getD v0 := by
  have h := fold_last (fun c : Put => decide (c.1 = j)) (fun c => c.2.1) l v0
  unfold pj
  rw [map_last, Option.map_map]
  show nowF j v0 l = ((l.filter fun c => decide (c.1 = j)).getLast?.map (fun c => c.2.1)).getD v0
  rw [← h]
  unfold nowF
  congr 1
  funext o c
  simp only [decide_eq_true_eq]
theorem newsF_pj (j t : Nat) (l : List Put) : newsF j t l = ((pj j l).filter fun x => decide (¬ x.2 < t)).map Prod.fst := by
  rw [pj_filter, List.map_map]
  unfold newsF
  congr 1
  apply List.filter_congr
  intro c _
  rw [Bool.eq_iff_iff]; simp only [Bool.and_eq_true, decide_eq_true_eq]
def lastF (fl : List Nat) : Nat := fl.getLast?.getD 0
theorem lastF_snoc (fl : List Nat) (x : Nat) : lastF (fl ++ [x]) = x := by simp [lastF]
theorem setF_all : ∀ (fl : List Nat) (F : Nat), (∀ t ∈ fl, t < F) → setF F fl = lastF fl := by
  intro fl F h
  have := fold_last (fun x : Nat => decide (x < F)) (fun x => x) fl 0
  have e : setF F fl = fl.foldl (fun o c => if decide (c < F) = true then c else o) 0 := by unfold setF; congr 1; funext o c; simp only [decide_eq_true_eq]
  rw [e, this, List.filter_eq_self.2 (fun x hx => decide_eq_true (h x hx)), Option.map_id']; rfl
/-- A word of the one device is a word's history of the other. -/
def SimW (t f : Nat) (P : List (BitVec 64 × Nat)) (v0 : BitVec 64) (w : Wd) : Prop :=
  ∃ A B C, P = A ++ (B ++ C) ∧ (∀ x ∈ A, x.2 < t) ∧ (∀ x ∈ B, t ≤ x.2 ∧ x.2 < f) ∧ (∀ x ∈ C, t ≤ x.2 ∧ f ≤ x.2) ∧ w.old = (A.getLast?.map Prod.fst).getD v0 ∧ w.news = (B ++ C).map Prod.fst ∧ w.mark = B.length
theorem simW_push {t f T : Nat} {P : List (BitVec 64 × Nat)} {v0 x : BitVec 64} {w : Wd} (h : SimW t f P v0 w) (h1 : t ≤ T) (h2 : f ≤ T) : SimW t f (P ++ [(x, T)]) v0 (pushW w x) := by
  obtain ⟨A, B, C, rfl, hA, hB, hC, ho, hn, hm⟩ := h
  refine ⟨A, B, C ++ [(x, T)], by simp, hA, hB, fun y hy => ?_, ho, ?_, hm⟩
  · rcases List.mem_append.1 hy with hy | hy
    · exact hC y hy
    · rw [List.mem_singleton.1 hy]; exact ⟨h1, h2⟩
  · show w.news ++ [x] = _
    rw [hn]; simp
theorem simW_flush {t f T : Nat} {P : List (BitVec 64 × Nat)} {v0 : BitVec 64} {w : Wd} (h : SimW t f P v0 w) (hP : ∀ y ∈ P, y.2 < T) : SimW t T P v0 (markW w) := by
  obtain ⟨A, B, C, rfl, hA, hB, hC, ho, hn, hm⟩ := h
  refine ⟨A, B ++ C, [], by simp, hA, fun y hy => ?_, by simp, ho, by rw [List.append_nil]; exact hn, ?_⟩
  · refine ⟨?_, hP y (List.mem_append_right _ hy)⟩
    rcases List.mem_append.1 hy with hy | hy
    · exact (hB y hy).1
    · exact (hC y hy).1
  · show w.news.length = _
    rw [hn, List.length_map]
theorem simW_fence {t f : Nat} {P : List (BitVec 64 × Nat)} {v0 : BitVec 64} {w : Wd} (h : SimW t f P v0 w) (htf : t ≤ f) : SimW f f P v0 (fenceW w) := by
  obtain ⟨A, B, C, rfl, hA, hB, hC, ho, hn, hm⟩ := h
  refine ⟨A ++ B, [], C, by simp, fun y hy => ?_, by simp, fun y hy => ⟨(hC y hy).2, (hC y hy).2⟩, ?_, ?_, ?_⟩
  · rcases List.mem_append.1 hy with hy | hy
    · exact Nat.lt_of_lt_of_le (hA y hy) htf
    · exact (hB y hy).2
  · unfold fenceW
    split
    · have : B = [] := List.eq_nil_of_length_eq_zero (by omega)
      subst this; rw [List.append_nil]; exact ho
    · rename_i h0
      have hBn : B ≠ [] := fun e => h0 (by rw [hm, e]; rfl)
      obtain ⟨b, hb⟩ : ∃ b, B.getLast? = some b := ⟨_, List.getLast?_eq_some_getLast hBn⟩
      have hw : w.news[w.mark - 1]? = some b.1 := by
        rw [hn, hm, List.map_append, List.getElem?_append_left (by rw [List.length_map]; have := List.length_pos_iff.2 hBn; omega), List.getElem?_map, ← List.getLast?_eq_getElem?, hb]; rfl
      simp only [hw, Option.getD_some]
      rw [List.getLast?_append, hb]; rfl
  · unfold fenceW
    split
    · have : B = [] := List.eq_nil_of_length_eq_zero (by omega)
      subst this; exact hn
    · show w.news.drop w.mark = _
      rw [hn, hm, List.map_append, List.drop_left' (by rw [List.length_map])]; rfl
  · unfold fenceW
    split
    · assumption
    · rfl
theorem simW_eval {t f j : Nat} {l : List Put} {v0 : BitVec 64} {w : Wd} (h : SimW t f (pj j l) v0 w) : oldF j t v0 l = w.old ∧ newsF j t l = w.news ∧ nowF j v0 l = nowW w := by
  obtain ⟨A, B, C, hP, hA, hB, hC, ho, hn, hm⟩ := h
  have e1 : (A ++ (B ++ C)).filter (fun x => decide (x.2 < t)) = A := by
    rw [List.filter_append, List.filter_eq_self.2 (fun x hx => decide_eq_true (hA x hx)), List.filter_eq_nil_iff.2 (fun x hx => ?_), List.append_nil]
    rcases List.mem_append.1 hx with h | h
    · have := (hB x h).1; simp only [decide_eq_true_eq]; omega
    · have := (hC x h).1; simp only [decide_eq_true_eq]; omega
  have e2 : (A ++ (B ++ C)).filter (fun x => decide (¬ x.2 < t)) = B ++ C := by
    rw [List.filter_append, List.filter_eq_nil_iff.2 (fun x hx => ?_), List.nil_append, List.filter_eq_self.2 (fun x hx => ?_)]
    · rcases List.mem_append.1 hx with h | h
      · have := (hB x h).1; simp only [decide_eq_true_eq]; omega
      · have := (hC x h).1; simp only [decide_eq_true_eq]; omega
    · have := hA x hx; simp only [decide_eq_true_eq]; omega
  refine ⟨by rw [oldF_pj, hP, e1, ho], by rw [newsF_pj, hP, e2, hn], ?_⟩
  rw [nowF_pj, hP]
  unfold nowW
  rw [hn, map_last, ho, List.getLast?_append]
  cases (B ++ C).getLast? <;> rfl
structure Sim (σ : Ds) (ρ : Rs) : Prop where
  len : σ.ws.length = 8 * ρ.ls.length
  now : σ.steps = ρ.now
  left : ρ.left = if σ.armed = true then (σ.left : Int) else -1
  fen : ρ.fenced ≤ ρ.now
  line : ∀ (k : Nat) (l : Rl), ρ.ls[k]? = some l → setF ρ.fenced l.fl ≤ lastF l.fl ∧ lastF l.fl ≤ ρ.now ∧ (∀ c ∈ l.puts, c.2.2 ≤ ρ.now) ∧ (∀ t ∈ l.fl, t ≤ ρ.now) ∧ l.first.length = 8 ∧
    ∀ j, j < 8 → ∃ v0 w, l.first[j]? = some v0 ∧ σ.ws[8 * k + j]? = some w ∧ SimW (setF ρ.fenced l.fl) (lastF l.fl) (pj j l.puts) v0 w
theorem Sim.dead {σ : Ds} {ρ : Rs} (h : Sim σ ρ) : deadB σ = decide (ρ.left = 0) := by
  unfold deadB
  rw [h.left]
  cases σ.armed with
  | true => simp
  | false => simp
theorem Sim.alive {σ : Ds} {ρ : Rs} (h : Sim σ ρ) (hd : deadB σ = false) : ρ.left ≠ 0 := by rw [h.dead] at hd; exact of_decide_eq_false hd
theorem Sim.isdead {σ : Ds} {ρ : Rs} (h : Sim σ ρ) (hd : deadB σ = true) : ρ.left = 0 := by rw [h.dead] at hd; exact of_decide_eq_true hd
theorem Sim.has {σ : Ds} {ρ : Rs} (h : Sim σ ρ) (a n : Int) : hasR ρ a n = hasB σ a n := by unfold hasR hasB; rw [h.len]; congr 1; rw [eq_iff_iff]; omega
theorem Sim.wrong {σ : Ds} {ρ : Rs} (h : Sim σ ρ) (a : Int) : wrongE ρ a = placeE σ a := by unfold wrongE placeE; rw [h.len, show 8 * ((8 * ρ.ls.length : Nat) : Int) = 64 * (ρ.ls.length : Int) by omega]
theorem Sim.stepLeft {σ : Ds} {ρ : Rs} (h : Sim σ ρ) (hd : deadB σ = false) : (stepR ρ).left = if (stepD σ).armed = true then ((stepD σ).left : Int) else -1 := by
  have h0 := h.alive hd
  have hl := h.left
  unfold stepR stepD
  simp only
  cases ha : σ.armed with
  | true =>
    rw [ha] at hl
    simp only [if_true] at hl ⊢
    split <;> omega
  | false =>
    rw [ha] at hl
    simp only [Bool.false_eq_true, if_false] at hl ⊢
    rw [hl]; rfl
theorem Sim.at {σ : Ds} {ρ : Rs} (h : Sim σ ρ) {K : Nat} (hK : K < σ.ws.length) : ∃ l v0 w, ρ.ls[K / 8]? = some l ∧ l.first[K % 8]? = some v0 ∧ σ.ws[K]? = some w ∧ SimW (setF ρ.fenced l.fl) (lastF l.fl) (pj (K % 8) l.puts) v0 w := by
  have hl := h.len
  obtain ⟨l, hk⟩ : ∃ l, ρ.ls[K / 8]? = some l := ⟨_, List.getElem?_eq_getElem (by omega)⟩
  obtain ⟨_, _, _, _, _, h6⟩ := h.line _ l hk
  obtain ⟨v0, w, h1, h2, h3⟩ := h6 (K % 8) (by omega)
  exact ⟨l, v0, w, hk, h1, by rwa [show 8 * (K / 8) + K % 8 = K by omega] at h2, h3⟩
theorem Sim.store {σ : Ds} {ρ : Rs} {k j : Nat} {l : Rl} {w : Wd} {x : BitVec 64} (h : Sim σ ρ) (hd : deadB σ = false) (hk : ρ.ls[k]? = some l) (hj : j < 8) (hw : σ.ws[8 * k + j]? = some w) : Sim (setD (stepD σ) (8 * k + j) (pushW w x)) (storeL ρ k j l x) := by
  refine ⟨?_, by show σ.steps + 1 = ρ.now + 1; rw [h.now], h.stepLeft hd, Nat.le_succ_of_le h.fen, fun i m hm => ?_⟩
  · show (List.set _ _ _).length = 8 * (List.set _ _ _).length
    rw [List.length_set, List.length_set]; exact h.len
  · have hm' : (ρ.ls.set k { l with puts := l.puts ++ [(j, x, ρ.now + 1)] })[i]? = some m := hm
    by_cases e : k = i
    · subst e
      rw [List.getElem?_set_self (List.getElem?_eq_some_iff.1 hk).1] at hm'
      obtain rfl := Option.some.inj hm'
      obtain ⟨h1, h2, h3, h4, h5, h6⟩ := h.line k l hk
      refine ⟨h1, Nat.le_succ_of_le h2, fun c hc => ?_, fun t ht => Nat.le_succ_of_le (h4 t ht), h5, fun j' hj' => ?_⟩
      · rcases List.mem_append.1 hc with hc | hc
        · exact Nat.le_succ_of_le (h3 c hc)
        · rw [List.mem_singleton.1 hc]; exact Nat.le_refl _
      · obtain ⟨v0, u, g1, g2, g3⟩ := h6 j' hj'
        by_cases ej : j = j'
        · subst ej
          rw [hw] at g2
          obtain rfl := Option.some.inj g2
          exact ⟨v0, _, g1, setD_self (σ := stepD σ) hw, by show SimW _ _ (pj j (l.puts ++ [(j, x, ρ.now + 1)])) v0 _; rw [pj_yes (c := (j, x, ρ.now + 1)) rfl]; exact simW_push g3 (show setF ρ.fenced l.fl ≤ ρ.now + 1 by omega) (Nat.le_succ_of_le h2)⟩
        · exact ⟨v0, u, g1, setD_at (σ := stepD σ) g2 (by omega), by show SimW _ _ (pj j' (l.puts ++ [(j, x, ρ.now + 1)])) v0 _; rw [pj_no (c := (j, x, ρ.now + 1)) ej]; exact g3⟩
    · rw [List.getElem?_set_ne e] at hm'
      obtain ⟨h1, h2, h3, h4, h5, h6⟩ := h.line i m hm'
      refine ⟨h1, Nat.le_succ_of_le h2, fun c hc => Nat.le_succ_of_le (h3 c hc), fun t ht => Nat.le_succ_of_le (h4 t ht), h5, fun j' hj' => ?_⟩
      obtain ⟨v0, u, g1, g2, g3⟩ := h6 j' hj'
      exact ⟨v0, u, g1, setD_at (σ := stepD σ) g2 (by omega), g3⟩
theorem Sim.flush {σ : Ds} {ρ : Rs} {k : Nat} {l : Rl} (h : Sim σ ρ) (hd : deadB σ = false) (hk : ρ.ls[k]? = some l) : Sim (lineD σ k) (flushL ρ k l) := by
  have hr := lineD_rest σ k
  have hkR := flushK_rest (stepD σ) (8 * k) 8
  refine ⟨?_, by rw [hr.1]; show σ.steps + 1 = ρ.now + 1; rw [h.now], ?_, Nat.le_succ_of_le h.fen, fun i m hm => ?_⟩
  · show _ = 8 * (List.set _ _ _).length
    rw [List.length_set, hr.2.2]; exact h.len
  · have := h.stepLeft hd
    show (stepR ρ).left = _
    rw [this, show (lineD σ k).armed = (stepD σ).armed from hkR.2.1, show (lineD σ k).left = (stepD σ).left from hkR.2.2.1]
  · have hm' : (ρ.ls.set k { l with fl := l.fl ++ [ρ.now + 1] })[i]? = some m := hm
    by_cases e : k = i
    · subst e
      rw [List.getElem?_set_self (List.getElem?_eq_some_iff.1 hk).1] at hm'
      obtain rfl := Option.some.inj hm'
      obtain ⟨h1, h2, h3, h4, h5, h6⟩ := h.line k l hk
      have hf := h.fen
      have e1 : setF ρ.fenced (l.fl ++ [ρ.now + 1]) = setF ρ.fenced l.fl := by rw [setF_snoc, if_neg (by omega)]
      refine ⟨?_, ?_, fun c hc => Nat.le_succ_of_le (h3 c hc), fun t ht => ?_, h5, fun j' hj' => ?_⟩
      · show setF ρ.fenced (l.fl ++ [ρ.now + 1]) ≤ lastF (l.fl ++ [ρ.now + 1])
        rw [e1, lastF_snoc]; omega
      · show lastF (l.fl ++ [ρ.now + 1]) ≤ ρ.now + 1
        rw [lastF_snoc]; exact Nat.le_refl _
      · rcases List.mem_append.1 ht with ht | ht
        · exact Nat.le_succ_of_le (h4 t ht)
        · rw [List.mem_singleton.1 ht]; exact Nat.le_refl _
      · obtain ⟨v0, u, g1, g2, g3⟩ := h6 j' hj'
        obtain ⟨mm, q1, q2, _⟩ := flushK_at (σ := stepD σ) (f := 8 * k) g2 8
        refine ⟨v0, _, g1, q1, ?_⟩
        show SimW (setF ρ.fenced (l.fl ++ [ρ.now + 1])) (lastF (l.fl ++ [ρ.now + 1])) (pj j' l.puts) v0 _
        rw [e1, lastF_snoc, q2 (by omega) (by omega)]
        refine simW_flush g3 (fun y hy => ?_)
        obtain ⟨c, hc, rfl⟩ := pj_mem hy
        exact Nat.lt_succ_of_le (h3 c hc)
    · rw [List.getElem?_set_ne e] at hm'
      obtain ⟨h1, h2, h3, h4, h5, h6⟩ := h.line i m hm'
      refine ⟨h1, Nat.le_succ_of_le h2, fun c hc => Nat.le_succ_of_le (h3 c hc), fun t ht => Nat.le_succ_of_le (h4 t ht), h5, fun j' hj' => ?_⟩
      obtain ⟨v0, u, g1, g2, g3⟩ := h6 j' hj'
      obtain ⟨mm, q1, _, q3⟩ := flushK_at (σ := stepD σ) (f := 8 * k) g2 8
      exact ⟨v0, _, g1, q1, by rw [q3 (by omega)]; exact g3⟩
theorem Sim.fence {σ : Ds} {ρ : Rs} (h : Sim σ ρ) (hd : deadB σ = false) : Sim (fenceD (stepD σ)) (fenceR ρ) := by
  refine ⟨by show (List.map _ _).length = _; rw [List.length_map]; exact h.len, by show σ.steps + 1 = ρ.now + 1; rw [h.now], h.stepLeft hd, Nat.le_refl _, fun i m hm => ?_⟩
  obtain ⟨h1, h2, h3, h4, h5, h6⟩ := h.line i m hm
  have e1 : setF (ρ.now + 1) m.fl = lastF m.fl := setF_all _ _ fun t ht => Nat.lt_succ_of_le (h4 t ht)
  refine ⟨by show setF (ρ.now + 1) m.fl ≤ _; rw [e1]; exact Nat.le_refl _, Nat.le_succ_of_le h2, fun c hc => Nat.le_succ_of_le (h3 c hc), fun t ht => Nat.le_succ_of_le (h4 t ht), h5, fun j' hj' => ?_⟩
  obtain ⟨v0, u, g1, g2, g3⟩ := h6 j' hj'
  refine ⟨v0, _, g1, fenceD_at (σ := stepD σ) g2, ?_⟩
  show SimW (setF (ρ.now + 1) m.fl) _ _ _ _
  rw [e1]
  exact simW_fence g3 h1
theorem Sim.arm {σ : Ds} {ρ : Rs} (h : Sim σ ρ) (m : Nat) : Sim (armD σ m) (armR ρ m) := ⟨h.len, h.now, by show (m : Int) = _; simp [armD], h.fen, h.line⟩
theorem sim_start (ls : List Rl) (ws : List Wd) (hl : ws.length = 8 * ls.length) (h : ∀ (k : Nat) (l : Rl), ls[k]? = some l → l.puts = [] ∧ l.fl = [] ∧ l.first.length = 8 ∧ ∀ j, j < 8 → ∃ v0, l.first[j]? = some v0 ∧ ws[8 * k + j]? = some ⟨v0, [], 0⟩) : Sim ⟨ws, 0, false, 0⟩ ⟨ls, 0, 0, -1⟩ := by
  refine ⟨hl, rfl, rfl, Nat.le_refl _, fun k l hk => ?_⟩
  obtain ⟨h1, h2, h3, h4⟩ := h k l hk
  refine ⟨by rw [h2]; exact Nat.le_refl _, by rw [h2]; exact Nat.le_refl _, by rw [h1]; simp, by rw [h2]; simp, h3, fun j hj => ?_⟩
  obtain ⟨v0, g1, g2⟩ := h4 j hj
  exact ⟨v0, _, g1, g2, [], [], [], by rw [h1]; rfl, by simp, by simp, by simp, rfl, rfl, rfl⟩
theorem sim_zero (M : Nat) : Sim (zeroD (8 * M)) (zeroR M) := by
  refine sim_start _ _ (by simp [wz]) fun k l hk => ?_
  have hkl := (List.getElem?_eq_some_iff.1 hk).1
  obtain rfl := (List.mem_replicate.1 (List.mem_of_getElem? hk)).2
  rw [List.length_replicate] at hkl
  refine ⟨rfl, rfl, rfl, fun j hj => ⟨0, by unfold zL; simp only; rw [List.getElem?_replicate, if_pos hj], ?_⟩⟩
  unfold wz; rw [List.getElem?_replicate, if_pos (by omega)]; rfl
def lineR (l : List UInt8) (k : Nat) : Rl := ⟨(List.range 8).map fun j => wdA l (8 * (8 * k + j)), [], []⟩
def loadR (l : List UInt8) (M : Nat) : Rs := ⟨(List.range M).map (lineR l), 0, 0, -1⟩
theorem sim_load {l : List UInt8} {M : Nat} (hl : l.length = 64 * M) : Sim (loadD l) (loadR l M) := by
  refine sim_start _ _ (by unfold loadWs; simp only [List.length_map, List.length_range]; omega) fun k m hk => ?_
  rw [List.getElem?_map] at hk
  have hkM : k < M := by
    rcases Nat.lt_or_ge k M with h | h
    · exact h
    · rw [List.getElem?_eq_none (by rw [List.length_range]; exact h)] at hk; cases hk
  rw [List.getElem?_range hkM] at hk
  obtain rfl := Option.some.inj hk
  refine ⟨rfl, rfl, by simp [lineR], fun j hj => ⟨wdA l (8 * (8 * k + j)), by unfold lineR; simp only; rw [List.getElem?_map, List.getElem?_range hj]; rfl, ?_⟩⟩
  exact loadWs_at (by omega)

end Go.Proofs.Ytkpbpeajkfgfiaa
