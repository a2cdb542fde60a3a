/- PmemFenced: the walk. -/
import Derived.Test.YtkpbpeajkfgfiaaQ1
set_option linter.unusedVariables false
set_option linter.unusedSimpArgs false
namespace Go.Proofs.Ytkpbpeajkfgfiaa
open Go Go.Wk

theorem at8_w (v : Value) (l : List UInt8) (k : Nat) (w : World) (hv : RdB w v l) (ha : 8 * k + 8 ≤ l.length) (hl : l.length ≤ 1000000) : PureC Try.prog 24 [v, .int .i64 (8 * (k : Int))] (.tuple #[b64 (wdA l (8 * k)), .bool true]) w := by
  have := at8_p v l (8 * k) w hv ha hl
  rwa [show ((8 * k : Nat) : Int) = 8 * (k : Int) from by omega] at this
theorem flushK_at {σ : Ds} {f k : Nat} {w : Wd} (h : σ.ws[k]? = some w) : ∀ j, ∃ m, (flushK σ f j).ws[k]? = some { w with mark := m } ∧ (f ≤ k → k < f + j → m = w.news.length) ∧ (¬ (f ≤ k ∧ k < f + j) → m = w.mark)
  | 0 => ⟨w.mark, h, fun h1 h2 => by omega, fun _ => rfl⟩
  | j + 1 => by
    obtain ⟨m, h1, h2, h3⟩ := flushK_at h j
    by_cases e : f + j = k
    · subst e
      rw [flushK_succ h1]
      exact ⟨w.news.length, by unfold setD; simp only; rw [List.getElem?_set_self (List.getElem?_eq_some_iff.1 h1).1]; rfl, fun _ _ => rfl, fun hn => absurd ⟨by omega, by omega⟩ hn⟩
    · cases hq : (flushK σ f j).ws[f + j]? with
      | none =>
        unfold flushK; rw [hq]
        exact ⟨m, h1, fun a b => h2 a (by omega), fun hn => h3 (fun ⟨a, b⟩ => hn ⟨a, by omega⟩)⟩
      | some u =>
        rw [flushK_succ hq]
        exact ⟨m, by unfold setD; simp only; rw [List.getElem?_set_ne e]; exact h1, fun a b => h2 a (by omega), fun hn => h3 (fun ⟨a, b⟩ => hn ⟨a, by omega⟩)⟩
theorem fenceD_at {σ : Ds} {k : Nat} {w : Wd} (h : σ.ws[k]? = some w) : (fenceD σ).ws[k]? = some (fenceW w) := by unfold fenceD; simp [h]
theorem setD_at {σ : Ds} {k j : Nat} {w u : Wd} (h : σ.ws[j]? = some w) (hne : k ≠ j) : (setD σ k u).ws[j]? = some w := by unfold setD; simp only; rw [List.getElem?_set_ne hne]; exact h
theorem setD_self {σ : Ds} {k : Nat} {w u : Wd} (h : σ.ws[k]? = some w) : (setD σ k u).ws[k]? = some u := by unfold setD; simp only; rw [List.getElem?_set_self (List.getElem?_eq_some_iff.1 h).1]
/-- A word that is settled stays so while nothing is stored in it. -/
def FK (N K : Nat) (x : BitVec 64) (n : Nat) (σ : Ds) : Prop := σ.ws.length = N ∧ σ.armed = false ∧ σ.steps ≤ n ∧ ∃ w, σ.ws[K]? = some w ∧ w.old = x ∧ w.news = [] ∧ w.mark = 0
theorem fk_more {N K n m : Nat} {x : BitVec 64} {σ : Ds} (h : FK N K x n σ) (hm : n ≤ m) : FK N K x m σ := ⟨h.1, h.2.1, Nat.le_trans h.2.2.1 hm, h.2.2.2⟩
theorem fk_note {N K n : Nat} {x : BitVec 64} {σ : Ds} {c : Nt} (hN : 0 < N) (h : FK N K x n σ) (hc : c.1 ≠ 1 ∨ wordI c.2.1 N ≠ K) : FK N K x (n + 1) (noteD N σ c) := by
  obtain ⟨h1, h2, h3, w, hw, ho, hn, hm⟩ := h
  obtain ⟨g1, g2, _, g4⟩ := noteD_rest c hN h1
  refine ⟨g4, g2.trans h2, by omega, ?_⟩
  unfold noteD
  split
  · rename_i h1c
    obtain ⟨u, hu⟩ : ∃ u, σ.ws[wordI c.2.1 N]? = some u := ⟨_, List.getElem?_eq_getElem (by rw [h1]; exact wordI_lt _ hN)⟩
    rw [hu]
    exact ⟨w, setD_at (σ := stepD σ) hw (by omega), ho, hn, hm⟩
  · split
    · obtain ⟨m, hm1, hm2, hm3⟩ := flushK_at (σ := stepD σ) (f := 8 * (wordI c.2.1 N / 8)) hw 8
      refine ⟨_, hm1, ho, hn, ?_⟩
      show m = 0
      by_cases e : 8 * (wordI c.2.1 N / 8) ≤ K ∧ K < 8 * (wordI c.2.1 N / 8) + 8
      · rw [hm2 e.1 e.2, hn]; rfl
      · rw [hm3 e, hm]
    · exact ⟨_, fenceD_at (σ := stepD σ) hw, by rw [fenceW_calm hm]; exact ho, by rw [fenceW_calm hm]; exact hn, by rw [fenceW_calm hm]; exact hm⟩
/-- Stored, flushed, fenced: settled. -/
theorem fk_made {N K n : Nat} {x : BitVec 64} {σ : Ds} {wd : Wd} (hl : σ.ws.length = N) (ha : σ.armed = false) (hst : σ.steps ≤ n) (hk : σ.ws[K]? = some wd) :
    FK N K x (n + 3) (fenceD (stepD (flushK (stepD (setD (stepD σ) K (pushW wd x))) (8 * (K / 8)) 8))) := by
  have a1 : (setD (stepD σ) K (pushW wd x)).ws.length = N := by simpa [setD, stepD] using hl
  have a2 : (setD (stepD σ) K (pushW wd x)).armed = false := ha
  have a3 : (setD (stepD σ) K (pushW wd x)).steps = σ.steps + 1 := rfl
  have a4 : (setD (stepD σ) K (pushW wd x)).ws[K]? = some (pushW wd x) := setD_self (σ := stepD σ) hk
  generalize setD (stepD σ) K (pushW wd x) = s1 at *
  obtain ⟨e1, e2, _, e4, _⟩ := flushK_rest (stepD s1) (8 * (K / 8)) 8
  obtain ⟨m, h1, h2, _⟩ := flushK_at (σ := stepD s1) (f := 8 * (K / 8)) a4 8
  have hm : m = wd.news.length + 1 := by rw [h2 (by omega) (by omega)]; simp [pushW]
  have e1' : (stepD s1).steps = s1.steps + 1 := rfl
  have e2' : (stepD s1).armed = s1.armed := rfl
  have e4' : (stepD s1).ws.length = s1.ws.length := rfl
  generalize flushK (stepD s1) (8 * (K / 8)) 8 = s3 at *
  have h3 := fenceD_at (σ := stepD s3) h1
  have hf : fenceW { pushW wd x with mark := m } = ⟨x, [], 0⟩ := by
    unfold fenceW; rw [if_neg (by simp only; omega), hm]; simp [pushW]
  rw [hf] at h3
  refine ⟨?_, ?_, ?_, _, h3, rfl, rfl, rfl⟩
  · have : (fenceD (stepD s3)).ws.length = s3.ws.length := List.length_map ..
    omega
  · have : (fenceD (stepD s3)).armed = s3.armed := rfl
    rw [this, e2, e2', a2]
  · have : (fenceD (stepD s3)).steps = s3.steps + 1 := rfl
    omega
theorem take_succ_of_get {α : Type} {l : List α} {k : Nat} {x : α} (h : l[k]? = some x) : l.take (k + 1) = l.take k ++ [x] := by rw [List.take_add_one, h]; rfl
theorem loadWs_at {l : List UInt8} {K : Nat} (h : 8 * K + 8 ≤ l.length) : (loadD l).ws[K]? = some ⟨wdA l (8 * K), [], 0⟩ := by
  unfold loadD loadWs; simp only; rw [List.getElem?_map, List.getElem?_range (by omega)]; rfl
theorem zeroD_len (N : Nat) : (zeroD N).ws.length = N := by simp [zeroD, wz]
theorem take_until {L : List Nt} {k : Nat} (h : k ≤ L.length) (h4 : k ≤ 400) (hn : ¬ (k < L.length ∧ k < 400)) : L.take k = L.take 400 := by
  rcases Nat.lt_or_ge k L.length with h1 | h1
  · have : k = 400 := by omega
    rw [this]
  · rw [List.take_of_length_le h1, List.take_of_length_le (by omega)]

theorem lawFenced_p (pg a : Int) (x : BitVec 64) (v1 v2 v3 : Value) (L1 L2 : List Nt) (cs : List Int) (w : World) (hv1 : RdN w v1 L1) (hv2 : RdN w v2 L2) (hv3 : RdI w v3 cs) (hl1 : L1.length ≤ 8796093022144) (hl2 : L2.length ≤ 8796093022144) :
    PureC Try.prog 5 [.agg #[.int .i64 pg, v1, .int .i64 a, b64 x, v2, v3]] (.bool true) w := by
 refine enter0 Try.func5 rfl Try.ntmps5 rfl ?_
 obtain ⟨N, hNe⟩ : ∃ N, N = sizeW pg := ⟨_, rfl⟩
 obtain ⟨hN1, hN2, hN3⟩ := sizeW_ok pg
 have hsz := sizeW_size pg
 rw [← hNe] at hN1 hN2 hN3 hsz
 have hN0 : 0 < N := by omega
 have hwl := wordI_lt a hN0
 simp only [envOf]
 refine tR ?_
 refine At.box rfl rfl rfl (fun b1 => ?_)
 refine tA rfl rfl ?_
 refine tE ?_
 refine tR ?_
 refine At.val (Val.field 0 rfl fo_52_0 rfl) rfl rfl rfl ?_
 refine At.val (Val.load (i := 0) Try.isAgg3 rfl rfl rfl) rfl rfl rfl ?_
 refine At.callP (fun w hw => size_p _ w) Try.call18 rfl rfl ?_
 refine tA rfl rfl ?_
 refine At.nil ?_
 rw [← hNe]
 refine At.thenN ?_
 refine tR ?_
 refine tM rfl rfl ?_
 refine At.callNB (fun w hw => made_d _ N w hsz rfl) Try.call19 rfl rfl (fun p2 y3 => ?_)
 refine tM rfl rfl ?_
 refine At.val (Val.extract rfl rfl) rfl rfl rfl ?_
 refine At.val (Val.extract rfl rfl) rfl rfl rfl ?_
 refine tA rfl rfl ?_
 refine tA rfl rfl ?_
 refine tE ?_
 refine At.seq ?_
 refine tR ?_
 refine tM rfl rfl ?_
 refine At.val (Val.not rfl) rfl rfl rfl ?_
 refine tE ?_
 refine At.condF rfl ?_
 refine At.skipC ?_
 refine At.thenN ?_
 refine At.seq ?_
 refine tR ?_
 refine tA rfl rfl ?_
 refine tE ?_
 refine At.block ?_
 skip
 refine At.loop (σ := Nat × Gh) (fun s => s.1 ≤ L1.length ∧ s.1 ≤ 400) (fun s => [(1, .pointer (some ⟨b1, 0, none⟩)), (3, .int .i64 (8 * (N : Int))), (4, .pointer (some ⟨p2, 0, none⟩)), (6, .int .i64 (s.1 : Int))]) (fun s => [Dev p2 s.2 (run N (zeroD N) (L1.take s.1)), blk b1 52 [.int .i64 pg, v1, .int .i64 a, b64 x, v2, v3]]) (fun s => L1.length - s.1) (0, y3) ⟨Nat.zero_le _, Nat.zero_le _⟩ (Sub.cons rfl (Sub.cons rfl (Sub.cons rfl (Sub.cons rfl Sub.nil)))) (List.Perm.refl _) ?_
 intro s hs
 obtain ⟨k, γ⟩ := s
 dsimp only at hs ⊢
 obtain ⟨hst, har, hle⟩ := run_rest hN0 (L1.take k) (zeroD N) (zeroD_len N) rfl
 have hst' : (run N (zeroD N) (L1.take k)).steps ≤ 400 := by rw [hst, List.length_take]; show 0 + _ ≤ _; omega
 refine At.seq ?_
 refine tR ?_
 refine tM rfl rfl ?_
 refine At.val (Val.field 1 rfl fo_52_1 rfl) rfl rfl rfl ?_
 refine At.val (Val.load (i := 1) Try.isAgg22 rfl rfl rfl) rfl rfl rfl ?_
 refine At.val (Val.lenRd hv1 Try.underlying22 rfl) rfl rfl rfl ?_
 refine At.val (Val.bin rfl rfl rfl) rfl rfl rfl ?_
 refine At.weaken [(1, _), (3, _), (4, _), (6, _), (33, _)] (Sub.cons rfl (Sub.cons rfl (Sub.cons rfl (Sub.cons rfl (Sub.cons rfl Sub.nil))))) ?_
 refine At.boolMeet 4 37 (decide (k < L1.length ∧ k < 400)) ?_ ?_
 ·skip
  simp only [List.take_succ_cons, List.take_zero]
  refine tM rfl rfl ?_
  refine At.split (t := 34) rfl (fun h4 => ?_) (fun h4 => ?_)
  ·skip
   try simp only [hasB, isSizeB, Bool.not_eq_true', Bool.not_eq_false', bne_iff_ne, ne_eq, bne_eq_false_iff_eq, beq_iff_eq, beq_eq_false_iff_ne, decide_eq_true_eq, decide_eq_false_iff_not, gt_iff_lt, ge_iff_le] at h4
   refine At.yes rfl rfl ?_
   refine tM rfl rfl ?_
   refine At.yes rfl rfl ?_
   refine At.val (Val.bin rfl rfl rfl) rfl rfl rfl ?_
   refine At.val (Val.pickT rfl rfl) rfl rfl rfl ?_
   refine At.nil ?_
   exact At.boolEnd rfl (by apply Bool.eq_iff_iff.2; (simp only [decide_eq_true_eq, Bool.false_eq_true, false_iff, true_iff, gt_iff_lt, ge_iff_le]) <;> omega) (by repeat (first | exact Sub.nil | refine Sub.cons rfl ?_))
  ·skip
   try simp only [hasB, isSizeB, Bool.not_eq_true', Bool.not_eq_false', bne_iff_ne, ne_eq, bne_eq_false_iff_eq, beq_iff_eq, beq_eq_false_iff_ne, decide_eq_true_eq, decide_eq_false_iff_not, gt_iff_lt, ge_iff_le] at h4
   refine At.no rfl rfl rfl rfl ?_
   refine At.no rfl rfl rfl rfl ?_
   refine At.val (Val.pickF rfl rfl) rfl rfl rfl ?_
   refine At.nil ?_
   exact At.boolEnd rfl (by apply Bool.eq_iff_iff.2; (simp only [decide_eq_true_eq, Bool.false_eq_true, false_iff, true_iff, gt_iff_lt, ge_iff_le]) <;> omega) (by repeat (first | exact Sub.nil | refine Sub.cons rfl ?_))
 ·skip
  simp only [List.drop_succ_cons, List.drop_zero]
  refine tE ?_
  refine At.cond rfl (fun h5 => ?_) (fun h5 => ?_)
  ·skip
   try simp only [hasB, isSizeB, Bool.not_eq_true', Bool.not_eq_false', bne_iff_ne, ne_eq, bne_eq_false_iff_eq, beq_iff_eq, beq_eq_false_iff_ne, decide_eq_true_eq, decide_eq_false_iff_not, gt_iff_lt, ge_iff_le] at h5
   refine At.skipC ?_
   refine At.thenN ?_
   refine At.seq ?_
   refine At.block ?_
   refine tR ?_
   refine tM rfl rfl ?_
   refine At.val (Val.field 1 rfl fo_52_1 rfl) rfl rfl rfl ?_
   refine At.val (Val.load (i := 1) Try.isAgg22 rfl rfl rfl) rfl rfl rfl ?_
   refine tM rfl rfl ?_
   refine At.idxN hv1 Try.underlying22 Try.sizeOf32 rfl rfl (by omega) (by omega) rfl rfl (fun b6 o7 q8 hq9 hc10 hd11 he12 hO13 => ?_)
   refine At.val (Val.loadN Try.isAgg32 Try.sizeOf32 rfl hc10 hd11 he12 (fun h => h)) rfl rfl rfl ?_
   refine tM rfl rfl ?_
   refine At.callD 0 rfl (fun w hw hr => note_d _ _ _ q8 N w hle (by omega) (dead_of har) hr) Try.call20 rfl rfl (fun y14 => ?_)
   simp only [sc0, scS]
   refine tA rfl rfl ?_
   refine tE ?_
   refine tR ?_
   refine tM rfl rfl ?_
   refine At.val (Val.bin rfl rfl rfl) rfl rfl rfl ?_
   refine tE ?_
   refine At.condF rfl ?_
   refine At.skipC ?_
   refine At.blkN ?_
   refine At.thenN ?_
   refine At.region ?_
   refine tM rfl rfl ?_
   first | refine At.val (Val.addI rfl rfl (by omega) (by omega)) rfl rfl rfl ?_ | refine At.val (Val.bin rfl rfl rfl) rfl rfl rfl ?_
   refine tA rfl rfl ?_
   refine tE ?_
   exact At.again (k + 1, y14) ⟨(show k + 1 ≤ _ by omega), (show k + 1 ≤ 400 by omega)⟩ (by dsimp only; omega) (Sub.cons rfl (Sub.cons rfl (Sub.cons rfl (Sub.cons (congrArg (fun z => some (Value.int IntKind.i64 z)) (by omega)) Sub.nil)))) (by rw [take_succ_of_get (by have := hq9; rwa [Int.toNat_natCast] at this), run_snoc])
  ·skip
   try simp only [hasB, isSizeB, Bool.not_eq_true', Bool.not_eq_false', bne_iff_ne, ne_eq, bne_eq_false_iff_eq, beq_iff_eq, beq_eq_false_iff_ne, decide_eq_true_eq, decide_eq_false_iff_not, gt_iff_lt, ge_iff_le] at h5
   generalize run N (zeroD N) (L1.take k) = σ1 at *
   obtain ⟨wd, hkw⟩ : ∃ wd, σ1.ws[wordI a N]? = some wd := ⟨_, List.getElem?_eq_getElem (by omega)⟩
   refine At.exitC ?_
   refine At.thenX ?_
   refine At.thenX ?_
   refine At.blkX ?_
   refine At.thenN ?_
   refine tR ?_
   refine At.val (Val.field 2 rfl fo_52_2 rfl) rfl rfl rfl ?_
   refine At.val (Val.load (i := 1) Try.isAgg3 rfl rfl rfl) rfl rfl rfl ?_
   refine tM rfl rfl ?_
   refine At.callP (fun w hw => word_p _ _ w (by omega) (by omega)) Try.call23 rfl rfl ?_
   refine tA rfl rfl ?_
   refine tE ?_
   refine tR ?_
   refine tM rfl rfl ?_
   refine tM rfl rfl ?_
   refine At.val (Val.field 3 rfl fo_52_3 rfl) rfl rfl rfl ?_
   refine At.val (Val.load (i := 1) Try.isAgg30 rfl rfl rfl) rfl rfl rfl ?_
   refine At.callD 0 rfl (fun w hw hr => store_d _ _ _ _ wd _ w hkw (by omega) (dead_of har) hr) Try.call31 rfl rfl (fun y15 => ?_)
   simp only [sc0, scS]
   refine tA rfl rfl ?_
   refine tE ?_
   refine tR ?_
   refine tM rfl rfl ?_
   refine tM rfl rfl ?_
   refine At.callD 0 rfl (fun w hw hr => flush_d _ _ _ _ (8 * (wordI a N / 8)) w (by omega) (by simp only [setD, stepD, List.length_set]; omega) (by omega) (by simp only [setD, stepD]; omega) (dead_of har) hr) Try.call32 rfl rfl (fun y16 => ?_)
   simp only [sc0, scS]
   refine tA rfl rfl ?_
   refine tE ?_
   refine tR ?_
   refine tM rfl rfl ?_
   refine At.callD 0 rfl (fun w hw hr => fence_d _ _ _ w (by rw [(flushK_rest _ _ 8).1]; simp only [setD, stepD]; omega) (dead_of (by rw [(flushK_rest _ _ 8).2.1]; exact har)) hr) Try.call33 rfl rfl (fun y17 => ?_)
   simp only [sc0, scS]
   refine tA rfl rfl ?_
   refine tE ?_
   refine At.seq ?_
   refine tR ?_
   refine tM rfl rfl ?_
   refine At.val (Val.bin rfl rfl rfl) rfl rfl rfl ?_
   refine tM rfl rfl ?_
   refine At.yes rfl rfl ?_
   refine tM rfl rfl ?_
   refine At.yes rfl rfl ?_
   refine At.val (Val.bin rfl rfl rfl) rfl rfl rfl ?_
   refine At.val (Val.pickF rfl rfl) rfl rfl rfl ?_
   refine tM rfl rfl ?_
   refine At.yes rfl rfl ?_
   refine tM rfl rfl ?_
   refine At.yes rfl rfl ?_
   refine At.val (Val.bin rfl rfl rfl) rfl rfl rfl ?_
   refine At.val (Val.pickF rfl rfl) rfl rfl rfl ?_
   refine tE ?_
   refine At.condF rfl ?_
   refine At.skipC ?_
   refine At.thenN ?_
   refine At.seq ?_
   refine tR ?_
   refine tA rfl rfl ?_
   refine tE ?_
   refine At.block ?_
   skip
   refine At.loop (σ := (Nat × Gh) × Ds) (fun s => s.1.1 ≤ L2.length ∧ s.1.1 ≤ 400 ∧ FK N (wordI a N) x (403 + s.1.1) s.2) (fun s => [(1, .pointer (some ⟨b1, 0, none⟩)), (3, .int .i64 (8 * (N : Int))), (4, .pointer (some ⟨p2, 0, none⟩)), (8, .int .i64 (8 * (wordI a N : Int))), (12, .int .i64 (s.1.1 : Int))]) (fun s => [Dev p2 s.1.2 s.2, blk b1 52 [.int .i64 pg, v1, .int .i64 a, b64 x, v2, v3]]) (fun s => L2.length - s.1.1) ((0, y17), fenceD (stepD (flushK (stepD (setD (stepD σ1) (wordI a N) (pushW wd x))) (8 * (wordI a N / 8)) 8))) ⟨Nat.zero_le _, Nat.zero_le _, fk_made hle har hst' hkw⟩ (Sub.cons rfl (Sub.cons rfl (Sub.cons rfl (Sub.cons rfl (Sub.cons rfl Sub.nil))))) (List.Perm.refl _) ?_
   intro s hs
   obtain ⟨⟨j, γ⟩, σ⟩ := s
   dsimp only at hs ⊢
   obtain ⟨hj1, hj2, hfk⟩ := hs
   have hfk' := hfk
   obtain ⟨fl, fa, fs, fw, fk, fo, fn, fm⟩ := hfk'
   refine At.seq ?_
   refine tR ?_
   refine tM rfl rfl ?_
   refine At.val (Val.field 4 rfl fo_52_4 rfl) rfl rfl rfl ?_
   refine At.val (Val.load (i := 1) Try.isAgg22 rfl rfl rfl) rfl rfl rfl ?_
   refine At.val (Val.lenRd hv2 Try.underlying22 rfl) rfl rfl rfl ?_
   refine At.val (Val.bin rfl rfl rfl) rfl rfl rfl ?_
   refine At.weaken [(1, _), (3, _), (4, _), (8, _), (12, _), (78, _)] (Sub.cons rfl (Sub.cons rfl (Sub.cons rfl (Sub.cons rfl (Sub.cons rfl (Sub.cons rfl Sub.nil)))))) ?_
   refine At.boolMeet 4 82 (decide (j < L2.length ∧ j < 400)) ?_ ?_
   ·skip
    simp only [List.take_succ_cons, List.take_zero]
    refine tM rfl rfl ?_
    refine At.split (t := 79) rfl (fun h18 => ?_) (fun h18 => ?_)
    ·skip
     try simp only [hasB, isSizeB, Bool.not_eq_true', Bool.not_eq_false', bne_iff_ne, ne_eq, bne_eq_false_iff_eq, beq_iff_eq, beq_eq_false_iff_ne, decide_eq_true_eq, decide_eq_false_iff_not, gt_iff_lt, ge_iff_le] at h18
     refine At.yes rfl rfl ?_
     refine tM rfl rfl ?_
     refine At.yes rfl rfl ?_
     refine At.val (Val.bin rfl rfl rfl) rfl rfl rfl ?_
     refine At.val (Val.pickT rfl rfl) rfl rfl rfl ?_
     refine At.nil ?_
     exact At.boolEnd rfl (by apply Bool.eq_iff_iff.2; (simp only [decide_eq_true_eq, Bool.false_eq_true, false_iff, true_iff, gt_iff_lt, ge_iff_le]) <;> omega) (by repeat (first | exact Sub.nil | refine Sub.cons rfl ?_))
    ·skip
     try simp only [hasB, isSizeB, Bool.not_eq_true', Bool.not_eq_false', bne_iff_ne, ne_eq, bne_eq_false_iff_eq, beq_iff_eq, beq_eq_false_iff_ne, decide_eq_true_eq, decide_eq_false_iff_not, gt_iff_lt, ge_iff_le] at h18
     refine At.no rfl rfl rfl rfl ?_
     refine At.no rfl rfl rfl rfl ?_
     refine At.val (Val.pickF rfl rfl) rfl rfl rfl ?_
     refine At.nil ?_
     exact At.boolEnd rfl (by apply Bool.eq_iff_iff.2; (simp only [decide_eq_true_eq, Bool.false_eq_true, false_iff, true_iff, gt_iff_lt, ge_iff_le]) <;> omega) (by repeat (first | exact Sub.nil | refine Sub.cons rfl ?_))
   ·skip
    simp only [List.drop_succ_cons, List.drop_zero]
    refine tE ?_
    refine At.cond rfl (fun h19 => ?_) (fun h19 => ?_)
    ·skip
     try simp only [hasB, isSizeB, Bool.not_eq_true', Bool.not_eq_false', bne_iff_ne, ne_eq, bne_eq_false_iff_eq, beq_iff_eq, beq_eq_false_iff_ne, decide_eq_true_eq, decide_eq_false_iff_not, gt_iff_lt, ge_iff_le] at h19
     have hj : j < L2.length := by omega
     obtain ⟨q, hq⟩ : ∃ q, L2[j]? = some q := ⟨_, List.getElem?_eq_getElem hj⟩
     refine At.skipC ?_
     refine At.thenN ?_
     refine At.seq ?_
     refine At.block ?_
     refine tR ?_
     refine At.val (Val.field 4 rfl fo_52_4 rfl) rfl rfl rfl ?_
     refine At.val (Val.load (i := 1) Try.isAgg22 rfl rfl rfl) rfl rfl rfl ?_
     refine tM rfl rfl ?_
     refine At.idxN hv2 Try.underlying22 Try.sizeOf32 rfl rfl (by omega) (by omega) rfl rfl (fun b20 o21 q22 hq23 hc24 hd25 he26 hO27 => ?_)
     obtain rfl : q = q22 := Option.some.inj (hq.symm.trans (by have := hq23; rwa [Int.toNat_natCast] at this))
     refine At.val (Val.field o21 rfl fo_32_0 rfl) rfl rfl rfl ?_
     refine At.val (Val.loadOld Try.isAgg3 rfl hc24 (fun h => h)) rfl rfl rfl ?_
     refine At.val (Val.bin rfl rfl rfl) rfl rfl rfl ?_
     refine At.weaken [(1, _), (3, _), (4, _), (8, _), (12, _), (78, _), (82, _), (91, _)] (Sub.cons rfl (Sub.cons rfl (Sub.cons rfl (Sub.cons rfl (Sub.cons rfl (Sub.cons rfl (Sub.cons rfl (Sub.cons rfl Sub.nil)))))))) ?_
     refine At.boolMeet 12 103 (decide (q.1 ≠ 1 ∨ wordI q.2.1 N ≠ wordI a N)) ?_ ?_
     ·skip
      simp only [List.take_succ_cons, List.take_zero]
      refine tM rfl rfl ?_
      refine At.split (t := 92) rfl (fun h28 => ?_) (fun h28 => ?_)
      ·skip
       try simp only [hasB, isSizeB, Bool.not_eq_true', Bool.not_eq_false', bne_iff_ne, ne_eq, bne_eq_false_iff_eq, beq_iff_eq, beq_eq_false_iff_ne, decide_eq_true_eq, decide_eq_false_iff_not, gt_iff_lt, ge_iff_le] at h28
       refine At.no rfl rfl rfl rfl ?_
       refine At.no rfl rfl rfl rfl ?_
       refine At.no rfl rfl rfl rfl ?_
       refine At.no rfl rfl rfl rfl ?_
       refine At.no rfl rfl rfl rfl ?_
       refine At.no rfl rfl rfl rfl ?_
       refine At.no rfl rfl rfl rfl ?_
       refine At.no rfl rfl rfl rfl ?_
       refine At.no rfl rfl rfl rfl ?_
       refine At.no rfl rfl rfl rfl ?_
       refine At.val (Val.pickT rfl rfl) rfl rfl rfl ?_
       refine At.nil ?_
       exact At.boolEnd rfl (by first | exact (decide_eq_true (by omega)).symm | exact (decide_eq_false (by omega)).symm | (apply Bool.eq_iff_iff.2; simp only [decide_eq_true_eq, beq_iff_eq, bne_iff_ne, ne_eq, Bool.not_eq_true', decide_eq_false_iff_not]; omega) | rfl | (simp_all; done) | (simp_all; omega)) (by repeat (first | exact Sub.nil | refine Sub.cons rfl ?_))
      ·skip
       try simp only [hasB, isSizeB, Bool.not_eq_true', Bool.not_eq_false', bne_iff_ne, ne_eq, bne_eq_false_iff_eq, beq_iff_eq, beq_eq_false_iff_ne, decide_eq_true_eq, decide_eq_false_iff_not, gt_iff_lt, ge_iff_le] at h28
       refine At.yes rfl rfl ?_
       refine At.val (Val.field 4 rfl fo_52_4 rfl) rfl rfl rfl ?_
       refine At.yes rfl rfl ?_
       refine At.val (Val.load (i := 1) Try.isAgg22 rfl rfl rfl) rfl rfl rfl ?_
       refine At.yes rfl rfl ?_
       refine tM rfl rfl ?_
       refine At.yes rfl rfl ?_
       refine At.idxN hv2 Try.underlying22 Try.sizeOf32 rfl rfl (by omega) (by omega) rfl rfl (fun b29 o30 q31 hq32 hc33 hd34 he35 hO36 => ?_)
       obtain rfl : q = q31 := Option.some.inj (hq.symm.trans (by have := hq32; rwa [Int.toNat_natCast] at this))
       refine At.yes rfl rfl ?_
       refine At.val (Val.field (o30 + 1) rfl fo_32_1 rfl) rfl rfl rfl ?_
       refine At.yes rfl rfl ?_
       refine At.val (Val.loadOld Try.isAgg3 rfl hd34 (fun h => h)) rfl rfl rfl ?_
       refine At.yes rfl rfl ?_
       refine tM rfl rfl ?_
       refine At.yes rfl rfl ?_
       refine At.callP (fun w hw => word_p _ _ w (by omega) (by omega)) Try.call23 rfl rfl ?_
       refine At.yes rfl rfl ?_
       refine tM rfl rfl ?_
       refine At.yes rfl rfl ?_
       refine At.val (Val.bin rfl rfl rfl) rfl rfl rfl ?_
       refine At.val (Val.pickF rfl rfl) rfl rfl rfl ?_
       refine At.nil ?_
       exact At.boolEnd rfl (by first | exact (decide_eq_true (by omega)).symm | exact (decide_eq_false (by omega)).symm | (apply Bool.eq_iff_iff.2; simp only [decide_eq_true_eq, beq_iff_eq, bne_iff_ne, ne_eq, Bool.not_eq_true', decide_eq_false_iff_not]; omega) | rfl | (simp_all; done) | (simp_all; omega)) (by repeat (first | exact Sub.nil | refine Sub.cons rfl ?_))
     ·skip
      simp only [List.drop_succ_cons, List.drop_zero]
      refine tE ?_
      refine At.cond rfl (fun h37 => ?_) (fun h37 => ?_)
      ·skip
       try simp only [hasB, isSizeB, Bool.not_eq_true', Bool.not_eq_false', bne_iff_ne, ne_eq, bne_eq_false_iff_eq, beq_iff_eq, beq_eq_false_iff_ne, decide_eq_true_eq, decide_eq_false_iff_not, gt_iff_lt, ge_iff_le] at h37
       refine At.region ?_
       refine tM rfl rfl ?_
       refine At.val (Val.field 4 rfl fo_52_4 rfl) rfl rfl rfl ?_
       refine At.val (Val.load (i := 1) Try.isAgg22 rfl rfl rfl) rfl rfl rfl ?_
       refine tM rfl rfl ?_
       refine At.idxN hv2 Try.underlying22 Try.sizeOf32 rfl rfl (by omega) (by omega) rfl rfl (fun b38 o39 q40 hq41 hc42 hd43 he44 hO45 => ?_)
       obtain rfl : q = q40 := Option.some.inj (hq.symm.trans (by have := hq41; rwa [Int.toNat_natCast] at this))
       refine At.val (Val.loadN Try.isAgg32 Try.sizeOf32 rfl hc42 hd43 he44 (fun h => h)) rfl rfl rfl ?_
       refine tM rfl rfl ?_
       refine At.callD 0 rfl (fun w hw hr => note_d _ _ _ q N w fl (by omega) (dead_of fa) hr) Try.call20 rfl rfl (fun y46 => ?_)
       simp only [sc0, scS]
       refine At.nil ?_
       refine At.blkN ?_
       refine At.thenN ?_
       refine At.region ?_
       refine tM rfl rfl ?_
       first | refine At.val (Val.addI rfl rfl (by omega) (by omega)) rfl rfl rfl ?_ | refine At.val (Val.bin rfl rfl rfl) rfl rfl rfl ?_
       refine tA rfl rfl ?_
       refine tE ?_
       exact At.again ((j + 1, y46), noteD N σ q) ⟨(show j + 1 ≤ _ by omega), (show j + 1 ≤ 400 by omega), (fk_more (fk_note hN0 hfk (by omega)) (show 403 + j + 1 ≤ 403 + (j + 1) by omega))⟩ (by dsimp only; omega) (Sub.cons rfl (Sub.cons rfl (Sub.cons rfl (Sub.cons rfl (Sub.cons (congrArg (fun z => some (Value.int IntKind.i64 z)) (by first | omega | (dsimp only; omega))) Sub.nil))))) (List.Perm.refl _)
      ·skip
       try simp only [hasB, isSizeB, Bool.not_eq_true', Bool.not_eq_false', bne_iff_ne, ne_eq, bne_eq_false_iff_eq, beq_iff_eq, beq_eq_false_iff_ne, decide_eq_true_eq, decide_eq_false_iff_not, gt_iff_lt, ge_iff_le] at h37
       refine At.skipC ?_
       refine At.blkN ?_
       refine At.thenN ?_
       refine At.region ?_
       refine tM rfl rfl ?_
       first | refine At.val (Val.addI rfl rfl (by omega) (by omega)) rfl rfl rfl ?_ | refine At.val (Val.bin rfl rfl rfl) rfl rfl rfl ?_
       refine tA rfl rfl ?_
       refine tE ?_
       exact At.again ((j + 1, γ), σ) ⟨(show j + 1 ≤ _ by omega), (show j + 1 ≤ 400 by omega), (fk_more hfk (show 403 + j ≤ 403 + (j + 1) by omega))⟩ (by dsimp only; omega) (Sub.cons rfl (Sub.cons rfl (Sub.cons rfl (Sub.cons rfl (Sub.cons (congrArg (fun z => some (Value.int IntKind.i64 z)) (by first | omega | (dsimp only; omega))) Sub.nil))))) (List.Perm.refl _)
    ·skip
     try simp only [hasB, isSizeB, Bool.not_eq_true', Bool.not_eq_false', bne_iff_ne, ne_eq, bne_eq_false_iff_eq, beq_iff_eq, beq_eq_false_iff_ne, decide_eq_true_eq, decide_eq_false_iff_not, gt_iff_lt, ge_iff_le] at h19
     refine At.exitC ?_
     refine At.thenX ?_
     refine At.thenX ?_
     refine At.blkX ?_
     refine At.thenN ?_
     refine tR ?_
     refine tM rfl rfl ?_
     refine At.val (Val.field 5 rfl fo_52_5 rfl) rfl rfl rfl ?_
     refine At.val (Val.load (i := 1) Try.isAgg23 rfl rfl rfl) rfl rfl rfl ?_
     refine At.callRK 0 rfl (fun w hw hr => crash_k _ _ _ v3 cs w (hv3.mod hw.mod) (hv3.off (hw.newFoot (List.mem_of_getElem? (i := 0) rfl))) hr) Try.call21 rfl rfl (fun v47 => ?_)
     refine tA rfl rfl ?_
     refine At.nil ?_
     have hlen : (wbytes (picked σ.ws (pkC σ.ws cs))).length = 8 * N := by rw [wbytes_length, picked_length, fl]
     have hwd9 : wdA (wbytes (picked σ.ws (pkC σ.ws cs))) (8 * wordI a N) = x := wbytes_word (by rw [picked_old fk fn, fo])
     refine At.thenN ?_
     refine tR ?_
     refine tM rfl rfl ?_
     refine tM rfl rfl ?_
     refine At.callP (fun w hw => at8_w _ _ _ w (row_rd (hw.row (i := 0) rfl) (by decide)) (by rw [hlen]; omega) (by rw [hlen]; omega)) Try.call24 rfl rfl ?_
     skip
     ·skip
      rw [hwd9]
      refine tM rfl rfl ?_
      refine At.val (Val.extract rfl rfl) rfl rfl rfl ?_
      refine At.val (Val.extract rfl rfl) rfl rfl rfl ?_
      refine tA rfl rfl ?_
      refine tA rfl rfl ?_
      refine tE ?_
      refine At.seq ?_
      refine tR ?_
      refine tM rfl rfl ?_
      refine At.val (Val.lenRow (i := 0) Try.underlying33 rfl rfl) rfl rfl rfl ?_
      refine tM rfl rfl ?_
      refine At.val (Val.bin rfl rfl rfl) rfl rfl rfl ?_
      refine tM rfl rfl ?_
      refine At.split (t := 126) rfl (fun h48 => ?_) (fun h48 => ?_)
      ·skip
       try simp only [hasB, isSizeB, Bool.not_eq_true', Bool.not_eq_false', bne_iff_ne, ne_eq, bne_eq_false_iff_eq, beq_iff_eq, beq_eq_false_iff_ne, decide_eq_true_eq, decide_eq_false_iff_not, gt_iff_lt, ge_iff_le] at h48
       rw [hlen] at h48; omega
      ·skip
       try simp only [hasB, isSizeB, Bool.not_eq_true', Bool.not_eq_false', bne_iff_ne, ne_eq, bne_eq_false_iff_eq, beq_iff_eq, beq_eq_false_iff_ne, decide_eq_true_eq, decide_eq_false_iff_not, gt_iff_lt, ge_iff_le] at h48
       refine At.yes rfl rfl ?_
       refine tM rfl rfl ?_
       refine At.yes rfl rfl ?_
       refine At.val (Val.not rfl) rfl rfl rfl ?_
       refine At.val (Val.pickF rfl rfl) rfl rfl rfl ?_
       refine tM rfl rfl ?_
       refine At.yes rfl rfl ?_
       refine tM rfl rfl ?_
       refine At.yes rfl rfl ?_
       refine At.val (Val.field 3 rfl fo_52_3 rfl) rfl rfl rfl ?_
       refine At.yes rfl rfl ?_
       refine At.val (Val.load (i := 2) Try.isAgg30 rfl rfl rfl) rfl rfl rfl ?_
       refine At.yes rfl rfl ?_
       refine At.val (Val.bin rfl rfl rfl) rfl rfl rfl ?_
       refine At.val (Val.pickF rfl rfl) rfl rfl rfl ?_
       refine tE ?_
       refine At.cond rfl (fun h49 => ?_) (fun h49 => ?_)
       ·skip
        try simp only [hasB, isSizeB, Bool.not_eq_true', Bool.not_eq_false', bne_iff_ne, ne_eq, bne_eq_false_iff_eq, beq_iff_eq, beq_eq_false_iff_ne, decide_eq_true_eq, decide_eq_false_iff_not, gt_iff_lt, ge_iff_le] at h49
        simp at h49
       ·skip
        try simp only [hasB, isSizeB, Bool.not_eq_true', Bool.not_eq_false', bne_iff_ne, ne_eq, bne_eq_false_iff_eq, beq_iff_eq, beq_eq_false_iff_ne, decide_eq_true_eq, decide_eq_false_iff_not, gt_iff_lt, ge_iff_le] at h49
        refine At.skipC ?_
        refine At.thenN ?_
        refine tR ?_
        refine tM rfl rfl ?_
        refine At.callNB (fun w hw => loaded_d _ _ w (row_rd (hw.row (i := 0) rfl) (by decide)) (by rw [hlen]; exact hsz)) Try.call34 rfl rfl (fun p50 y51 => ?_)
        refine tM rfl rfl ?_
        refine At.val (Val.extract rfl rfl) rfl rfl rfl ?_
        refine At.val (Val.extract rfl rfl) rfl rfl rfl ?_
        refine tA rfl rfl ?_
        refine tA rfl rfl ?_
        refine tE ?_
        refine At.seq ?_
        refine tR ?_
        refine tM rfl rfl ?_
        refine At.val (Val.not rfl) rfl rfl rfl ?_
        refine tE ?_
        refine At.condF rfl ?_
        refine At.skipC ?_
        refine At.thenN ?_
        refine tR ?_
        refine tM rfl rfl ?_
        refine tM rfl rfl ?_
        refine At.callK 0 rfl (fun w hw hr => word_k _ _ _ _ ⟨wdA (wbytes (picked σ.ws (pkC σ.ws cs))) (8 * wordI a N), [], 0⟩ w (loadWs_at (by rw [hlen]; omega)) hr) Try.call35 rfl rfl ?_
        skip
        ·skip
         rw [hwd9, show nowW ⟨x, [], 0⟩ = x from rfl]
         refine tM rfl rfl ?_
         refine At.val (Val.extract rfl rfl) rfl rfl rfl ?_
         refine At.val (Val.extract rfl rfl) rfl rfl rfl ?_
         refine tA rfl rfl ?_
         refine tA rfl rfl ?_
         refine tE ?_
         refine tR ?_
         refine tM rfl rfl ?_
         refine At.val (Val.field 3 rfl fo_52_3 rfl) rfl rfl rfl ?_
         refine At.val (Val.load (i := 3) Try.isAgg30 rfl rfl rfl) rfl rfl rfl ?_
         refine At.val (Val.bin rfl rfl rfl) rfl rfl rfl ?_
         refine tM rfl rfl ?_
         refine At.split (t := 153) rfl (fun h52 => ?_) (fun h52 => ?_)
         ·skip
          try simp only [hasB, isSizeB, Bool.not_eq_true', Bool.not_eq_false', bne_iff_ne, ne_eq, bne_eq_false_iff_eq, beq_iff_eq, beq_eq_false_iff_ne, decide_eq_true_eq, decide_eq_false_iff_not, gt_iff_lt, ge_iff_le] at h52
          refine At.yes rfl rfl ?_
          refine tM rfl rfl ?_
          refine At.yes rfl rfl ?_
          refine At.val (Val.bin rfl rfl rfl) rfl rfl rfl ?_
          refine At.val (Val.pickT rfl rfl) rfl rfl rfl ?_
          refine tA rfl rfl ?_
          refine tE ?_
          refine At.retC ?_
          refine At.ret1 (.inl rfl) rfl rfl rfl (fun w hw => ?_)
          exact ⟨rfl, hw.mod⟩
         ·skip
          try simp only [hasB, isSizeB, Bool.not_eq_true', Bool.not_eq_false', bne_iff_ne, ne_eq, bne_eq_false_iff_eq, beq_iff_eq, beq_eq_false_iff_ne, decide_eq_true_eq, decide_eq_false_iff_not, gt_iff_lt, ge_iff_le] at h52
          simp at h52

end Go.Proofs.Ytkpbpeajkfgfiaa
