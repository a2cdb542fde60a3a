/- PmemCalm: the walk. -/
import Derived.Test.YtkpbpeajkfgfiaaQ4
import Derived.Test.YtkpbpeajkfgfiaaP10
import Derived.Test.YtkpbpeajkfgfiaaP11
set_option linter.unusedVariables false
set_option linter.unusedSimpArgs false
namespace Go.Proofs.Ytkpbpeajkfgfiaa
open Go Go.Wk

def linesD : Nat → Ds → Nat → Ds
  | _, σ, 0 => σ
  | l, σ, c + 1 => linesD (l + 1) (lineD σ l) c
theorem linesE_calm : ∀ (c l : Nat) (σ : Ds), σ.armed = false → linesE l σ c = (0, linesD l σ c)
  | 0, l, σ, h => rfl
  | c + 1, l, σ, h => by
    rw [linesE_live (dead_of h), linesE_calm c (l + 1) _ ((lineD_rest σ l).2.1.trans h)]; rfl
theorem linesD_rest : ∀ (c l : Nat) (σ : Ds), (linesD l σ c).steps = σ.steps + c ∧ (linesD l σ c).armed = σ.armed ∧ (linesD l σ c).ws.length = σ.ws.length
  | 0, l, σ => ⟨rfl, rfl, rfl⟩
  | c + 1, l, σ => by
    obtain ⟨h1, h2, h3⟩ := linesD_rest c (l + 1) (lineD σ l)
    obtain ⟨g1, g2, g3⟩ := lineD_rest σ l
    exact ⟨by show (linesD (l + 1) (lineD σ l) c).steps = _; omega, h2.trans g2, h3.trans g3⟩
theorem linesD_at {k : Nat} : ∀ (c l : Nat) (σ : Ds) {w : Wd}, σ.ws[k]? = some w → ∃ m, (linesD l σ c).ws[k]? = some { w with mark := m } ∧ ((8 * l ≤ k ∧ k < 8 * (l + c)) → m = w.news.length) ∧ (¬ (8 * l ≤ k ∧ k < 8 * (l + c)) → m = w.mark)
  | 0, l, σ, w, h => ⟨w.mark, h, fun h => by omega, fun _ => rfl⟩
  | c + 1, l, σ, w, h => by
    obtain ⟨m, h1, h2, h3⟩ := flushK_at (σ := stepD σ) (f := 8 * l) h 8
    obtain ⟨m', g1, g2, g3⟩ := linesD_at c (l + 1) (lineD σ l) h1
    refine ⟨m', g1, fun hk => ?_, fun hk => ?_⟩
    · by_cases e : 8 * (l + 1) ≤ k
      · exact g2 ⟨e, by omega⟩
      · rw [g3 (by omega)]; exact h2 (by omega) (by omega)
    · rw [g3 (by omega)]; exact h3 (by omega)
theorem calm_fence {w : Wd} (hm : w.mark = w.news.length) : (fenceW w).news = [] ∧ (fenceW w).old = nowW w := by
  unfold fenceW
  split
  · have : w.news = [] := List.eq_nil_of_length_eq_zero (by omega)
    exact ⟨this, by unfold nowW; rw [this]; rfl⟩
  · refine ⟨List.drop_of_length_le (by show w.news.length ≤ w.mark; omega), ?_⟩
    show (w.news[w.mark - 1]?).getD w.old = nowW w
    unfold nowW
    rw [hm, ← List.getLast?_eq_getElem?]
theorem calm_now {w : Wd} (h : w.news = []) : nowW w = w.old := now_old h
/-- All flushed and fenced: nothing is in doubt, what is told stays. -/
theorem calm_all {σ σ' : Ds} (hl : σ'.ws.length = σ.ws.length) (h : ∀ (k : Nat) (w : Wd), σ.ws[k]? = some w → ∃ m, σ'.ws[k]? = some { w with mark := m } ∧ m = w.news.length) :
    (∀ w ∈ (fenceD (stepD σ')).ws, w.news = []) ∧ viewWs (fenceD (stepD σ')).ws = viewWs σ.ws := by
  have key : ∀ (k : Nat) (w : Wd), (fenceD (stepD σ')).ws[k]? = some w → ∃ u, σ.ws[k]? = some u ∧ w.news = [] ∧ w.old = nowW u := by
    intro k w hw
    have hk : k < σ.ws.length := by
      have := (List.getElem?_eq_some_iff.1 hw).1
      have e : (fenceD (stepD σ')).ws.length = σ'.ws.length := by simp [fenceD, stepD]
      omega
    obtain ⟨u, hu⟩ : ∃ u, σ.ws[k]? = some u := ⟨_, List.getElem?_eq_getElem hk⟩
    obtain ⟨m, h1, h2⟩ := h k u hu
    have h3 := fenceD_at (σ := stepD σ') h1
    rw [h3] at hw
    obtain rfl := Option.some.inj hw
    obtain ⟨c1, c2⟩ := calm_fence (w := { u with mark := m }) h2
    exact ⟨u, hu, c1, c2⟩
  refine ⟨fun w hw => ?_, ?_⟩
  · obtain ⟨k, hk⟩ := List.getElem?_of_mem hw
    exact (key k w hk).choose_spec.2.1
  · apply List.ext_getElem?
    intro k
    unfold viewWs
    rw [List.getElem?_map, List.getElem?_map]
    cases hw : (fenceD (stepD σ')).ws[k]? with
    | none =>
      have := List.getElem?_eq_none_iff.1 hw
      have e : (fenceD (stepD σ')).ws.length = σ'.ws.length := by simp [fenceD, stepD]
      rw [List.getElem?_eq_none (by omega : σ.ws.length ≤ k)]
    | some w =>
      obtain ⟨u, hu, h1, h2⟩ := key k w hw
      rw [hu]; exact congrArg some ((calm_now h1).trans h2)
theorem dk_nil {ws : List Wd} (h : ∀ w ∈ ws, w.news = []) : dk ws = [] := by
  apply List.eq_nil_iff_forall_not_mem.2
  intro k hk
  obtain ⟨w, hw, hn⟩ := mem_dk.1 hk
  exact hn (h w (List.mem_of_getElem? hw))
theorem dts_nil {ws : List Wd} (h : ∀ w ∈ ws, w.news = []) : dts ws = [] := by unfold dts; rw [dk_nil h]; rfl
theorem picked_nil {ws : List Wd} (h : ∀ w ∈ ws, w.news = []) (pk : Nat → Nat → BitVec 64) : picked ws pk = viewWs ws := by
  unfold picked; rw [dk_nil h]
  show olds ws = _
  unfold olds viewWs
  exact List.map_congr_left fun w hw => (calm_now (h w hw)).symm
theorem calmAll_d (p : Nat) (γ : Gh) (σ : Ds) (N : Nat) (w : World) (hN : σ.ws.length = N) (h0 : 0 < N) (h8 : N % 8 = 0) (ha : σ.armed = false) (hst : σ.steps + N / 8 ≤ 1099511627776) (hd : (Dev p γ σ).holds w) :
    DevU Try.prog 40 [.pointer (some ⟨p, 0, none⟩), .int .i64 0, .int .i64 (8 * (N : Int))] p γ σ (.int .i64 0) (linesD 0 σ (N / 8)) w := by
  have := flushAll_d p γ σ 0 (8 * N) (N / 8) w (by omega) ⟨fun h => by omega, fun h => by omega⟩ hst hd
  rw [show 0 / 64 = 0 from rfl, linesE_calm _ _ _ ha] at this
  rwa [show ((8 * N : Nat) : Int) = 8 * (N : Int) by omega] at this
theorem fst_nil {Q : List Dq} {D : List Dt} (h : Q.map Prod.fst = D) (hD : D = []) : Q = [] := by subst hD; exact List.map_eq_nil_iff.1 h

theorem lawCalm_p (pg : Int) (v1 v2 : Value) (L : List Nt) (cs : List Int) (w : World) (hv1 : RdN w v1 L) (hv2 : RdI w v2 cs) (hl1 : L.length ≤ 8796093022144) :
    PureC Try.prog 7 [.int .i64 pg, v1, v2] (.bool true) w := by
 refine enter0 Try.func7 rfl Try.ntmps7 rfl ?_
 obtain ⟨N, hNe⟩ : ∃ N, N = sizeW pg := ⟨_, rfl⟩
 obtain ⟨hN1, hN2, hN3⟩ := sizeW_ok pg
 have hsz := sizeW_size pg
 rw [← hNe] at hN1 hN2 hN3 hsz
 have hN0 : 0 < N := by omega
 simp only [envOf]
 refine tR ?_
 refine tA rfl rfl ?_
 refine tE ?_
 refine tR ?_
 refine tM rfl rfl ?_
 refine At.callP (fun w hw => size_p _ w) Try.call18 rfl rfl ?_
 refine tA rfl rfl ?_
 refine At.nil ?_
 rw [← hNe]
 refine At.thenN ?_
 refine tR ?_
 refine tM rfl rfl ?_
 refine At.callNB (fun w hw => made_d _ N w hsz rfl) Try.call19 rfl rfl (fun p1 y2 => ?_)
 refine tM rfl rfl ?_
 refine At.val (Val.extract rfl rfl) rfl rfl rfl ?_
 refine At.val (Val.extract rfl rfl) rfl rfl rfl ?_
 refine tA rfl rfl ?_
 refine tA rfl rfl ?_
 refine tE ?_
 refine At.seq ?_
 refine tR ?_
 refine tM rfl rfl ?_
 refine At.val (Val.not rfl) rfl rfl rfl ?_
 refine tE ?_
 refine At.condF rfl ?_
 refine At.skipC ?_
 refine At.thenN ?_
 refine tR ?_
 refine tM rfl rfl ?_
 refine tM rfl rfl ?_
 refine tM rfl rfl ?_
 refine At.callD 0 rfl (fun w hw hr => notes_d _ _ _ v1 L N w (hv1.mod hw.mod) (hv1.off (hw.newFoot (List.mem_of_getElem? (i := 0) rfl))) (zeroD_len N) rfl (by show 0 + 400 ≤ _; omega) hl1 hr) Try.call26 rfl rfl (fun y3 => ?_)
 simp only [sc0, scS]
 refine tA rfl rfl ?_
 refine At.nil ?_
 obtain ⟨hst, har, hle⟩ := run_rest hN0 (L.take 400) (zeroD N) (zeroD_len N) rfl
 have hst' : (run N (zeroD N) (L.take 400)).steps ≤ 400 := by rw [hst, List.length_take]; show 0 + _ ≤ _; omega
 generalize run N (zeroD N) (L.take 400) = σ1 at *
 refine At.thenN ?_
 refine At.seq ?_
 refine tR ?_
 refine tM rfl rfl ?_
 refine At.val (Val.not rfl) rfl rfl rfl ?_
 refine tE ?_
 refine At.condF rfl ?_
 refine At.skipC ?_
 refine At.thenN ?_
 refine tR ?_
 refine tM rfl rfl ?_
 refine At.callRK 0 rfl (fun w hw hr => view_k _ _ _ w hr) Try.call22 rfl rfl (fun v4 => ?_)
 refine tA rfl rfl ?_
 refine tE ?_
 refine tR ?_
 refine tM rfl rfl ?_
 refine At.callK 1 rfl (fun w hw hr => steps_k _ _ _ w hr) Try.call38 rfl rfl ?_
 refine tA rfl rfl ?_
 refine tE ?_
 refine tR ?_
 refine tM rfl rfl ?_
 refine tM rfl rfl ?_
 refine At.callD 1 rfl (fun w hw hr => calmAll_d _ _ _ N w hle hN0 (by omega) har (by omega) hr) Try.call40 rfl rfl (fun y5 => ?_)
 simp only [sc0, scS]
 refine tA rfl rfl ?_
 refine At.nil ?_
 obtain ⟨g1, g2, g3⟩ := linesD_rest (N / 8) 0 σ1
 obtain ⟨hcalm, hview⟩ := calm_all (σ := σ1) g3 (fun k u hu => by obtain ⟨m, e1, e2, _⟩ := linesD_at (N / 8) 0 σ1 hu; exact ⟨m, e1, e2 ⟨Nat.zero_le _, by have := (List.getElem?_eq_some_iff.1 hu).1; omega⟩⟩)
 have hst3 : (fenceD (stepD (linesD 0 σ1 (N / 8)))).steps = σ1.steps + N / 8 + 1 := by show (linesD 0 σ1 (N / 8)).steps + 1 = _; rw [g1]
 have hle3 : (fenceD (stepD (linesD 0 σ1 (N / 8)))).ws.length = N := by show (List.map _ _).length = N; rw [List.length_map]; exact g3.trans hle
 have har3 : (fenceD (stepD (linesD 0 σ1 (N / 8)))).armed = false := g2.trans har
 refine At.thenN ?_
 refine tR ?_
 refine tM rfl rfl ?_
 refine At.callD 1 rfl (fun w hw hr => fence_d _ _ _ w (by omega) (dead_of (g2.trans har)) hr) Try.call33 rfl rfl (fun y6 => ?_)
 simp only [sc0, scS]
 refine tA rfl rfl ?_
 refine At.nil ?_
 generalize fenceD (stepD (linesD 0 σ1 (N / 8))) = σ3 at *
 refine At.thenN ?_
 refine At.seq ?_
 refine tR ?_
 refine tM rfl rfl ?_
 refine At.val (Val.bin rfl rfl rfl) rfl rfl rfl ?_
 refine tM rfl rfl ?_
 refine At.yes rfl rfl ?_
 refine tM rfl rfl ?_
 refine At.yes rfl rfl ?_
 refine At.val (Val.bin rfl rfl rfl) rfl rfl rfl ?_
 refine At.val (Val.pickF rfl rfl) rfl rfl rfl ?_
 refine tM rfl rfl ?_
 refine At.yes rfl rfl ?_
 refine tM rfl rfl ?_
 refine At.yes rfl rfl ?_
 refine At.callK 1 rfl (fun w hw hr => steps_k _ _ _ w hr) Try.call38 rfl rfl ?_
 refine At.yes rfl rfl ?_
 refine tM rfl rfl ?_
 refine At.yes rfl rfl ?_
 refine tM rfl rfl ?_
 refine At.yes rfl rfl ?_
 first | refine At.val (Val.quoI rfl rfl (by omega) (by omega) (by decide)) rfl rfl rfl ?_ | refine At.val (Val.quo rfl rfl (by decide)) rfl rfl rfl ?_
 refine At.yes rfl rfl ?_
 first | refine At.val (Val.addI rfl rfl (by omega) (by omega)) rfl rfl rfl ?_ | refine At.val (Val.bin rfl rfl rfl) rfl rfl rfl ?_
 refine At.yes rfl rfl ?_
 first | refine At.val (Val.addI rfl rfl (by omega) (by omega)) rfl rfl rfl ?_ | refine At.val (Val.bin rfl rfl rfl) rfl rfl rfl ?_
 refine At.yes rfl rfl ?_
 refine At.val (Val.bin rfl rfl rfl) rfl rfl rfl ?_
 refine At.val (Val.pickF rfl rfl) rfl rfl rfl ?_
 refine tE ?_
 refine At.cond rfl (fun h7 => ?_) (fun h7 => ?_)
 ·skip
  try simp only [hasB, isSizeB, Bool.not_eq_true', Bool.not_eq_false', bne_iff_ne, ne_eq, bne_eq_false_iff_eq, beq_iff_eq, beq_eq_false_iff_ne, decide_eq_true_eq, decide_eq_false_iff_not, gt_iff_lt, ge_iff_le] at h7
  omega
 ·skip
  try simp only [hasB, isSizeB, Bool.not_eq_true', Bool.not_eq_false', bne_iff_ne, ne_eq, bne_eq_false_iff_eq, beq_iff_eq, beq_eq_false_iff_ne, decide_eq_true_eq, decide_eq_false_iff_not, gt_iff_lt, ge_iff_le] at h7
  refine At.skipC ?_
  refine At.thenN ?_
  refine tR ?_
  refine tM rfl rfl ?_
  refine At.callDB 1 rfl (fun w hw hr => doubts_k _ _ _ w hr) Try.call27 rfl rfl (fun v8 Q9 hQ10 => ?_)
  refine tA rfl rfl ?_
  refine At.nil ?_
  obtain rfl := fst_nil hQ10 (dts_nil hcalm)
  have hvl : (wbytes (viewWs σ1.ws)).length = 8 * N := by rw [wbytes_length, viewWs, List.length_map, hle]
  refine At.thenN ?_
  refine tR ?_
  refine tM rfl rfl ?_
  refine At.val (Val.lenRow (i := 1) Try.underlying33 rfl rfl) rfl rfl rfl ?_
  refine tM rfl rfl ?_
  refine At.val (Val.bin rfl rfl rfl) rfl rfl rfl ?_
  refine tM rfl rfl ?_
  refine At.split (t := 61) rfl (fun h11 => ?_) (fun h11 => ?_)
  ·skip
   try simp only [hasB, isSizeB, Bool.not_eq_true', Bool.not_eq_false', bne_iff_ne, ne_eq, bne_eq_false_iff_eq, beq_iff_eq, beq_eq_false_iff_ne, decide_eq_true_eq, decide_eq_false_iff_not, gt_iff_lt, ge_iff_le] at h11
   refine At.yes rfl rfl ?_
   refine tM rfl rfl ?_
   refine At.yes rfl rfl ?_
   refine At.val (Val.lenDb (i := 0) rfl Try.underlying43 rfl) rfl rfl rfl ?_
   refine At.yes rfl rfl ?_
   refine At.val (Val.bin rfl rfl rfl) rfl rfl rfl ?_
   refine At.val (Val.pickT rfl rfl) rfl rfl rfl ?_
   refine tM rfl rfl ?_
   refine At.split (t := 66) rfl (fun h12 => ?_) (fun h12 => ?_)
   ·skip
    try simp only [hasB, isSizeB, Bool.not_eq_true', Bool.not_eq_false', bne_iff_ne, ne_eq, bne_eq_false_iff_eq, beq_iff_eq, beq_eq_false_iff_ne, decide_eq_true_eq, decide_eq_false_iff_not, gt_iff_lt, ge_iff_le] at h12
    refine At.yes rfl rfl ?_
    refine tM rfl rfl ?_
    refine At.yes rfl rfl ?_
    refine tM rfl rfl ?_
    refine At.yes rfl rfl ?_
    refine At.callRK 2 rfl (fun w hw hr => crash_k _ _ _ v2 cs w (hv2.mod hw.mod) (hv2.off (hw.newFoot (List.mem_of_getElem? (i := 2) rfl))) hr) Try.call21 rfl rfl (fun v13 => ?_)
    refine At.yes rfl rfl ?_
    refine tM rfl rfl ?_
    refine At.yes rfl rfl ?_
    refine At.callP (fun w hw => sameBytes_p _ _ _ _ w (row_rd (hw.row (i := 0) rfl) (by decide)) (row_rd (hw.row (i := 2) rfl) (by decide)) (by rw [wbytes_length, picked_length]; omega) (by rw [hvl]; omega)) Try.call28 rfl rfl ?_
    rw [picked_nil hcalm, hview, decide_eq_true rfl]
    ·skip
     refine At.val (Val.pickT rfl rfl) rfl rfl rfl ?_
     refine tM rfl rfl ?_
     refine At.yes rfl rfl ?_
     refine tM rfl rfl ?_
     refine At.yes rfl rfl ?_
     refine At.callRK 3 rfl (fun w hw hr => view_k _ _ _ w hr) Try.call22 rfl rfl (fun v14 => ?_)
     refine At.yes rfl rfl ?_
     refine tM rfl rfl ?_
     refine At.yes rfl rfl ?_
     refine At.callP (fun w hw => sameBytes_p _ _ _ _ w (row_rd (hw.row (i := 0) rfl) (by decide)) (row_rd (hw.row (i := 3) rfl) (by decide)) (by rw [wbytes_length, viewWs, List.length_map]; omega) (by rw [hvl]; omega)) Try.call28 rfl rfl ?_
     rw [hview, decide_eq_true rfl]
     ·skip
      refine At.val (Val.pickT rfl rfl) rfl rfl rfl ?_
      refine tA rfl rfl ?_
      refine tE ?_
      refine At.retC ?_
      refine At.ret1 (.inl rfl) rfl rfl rfl (fun w hw => ?_)
      exact ⟨rfl, hw.mod⟩
   ·skip
    try simp only [hasB, isSizeB, Bool.not_eq_true', Bool.not_eq_false', bne_iff_ne, ne_eq, bne_eq_false_iff_eq, beq_iff_eq, beq_eq_false_iff_ne, decide_eq_true_eq, decide_eq_false_iff_not, gt_iff_lt, ge_iff_le] at h12
    simp at h12
  ·skip
   try simp only [hasB, isSizeB, Bool.not_eq_true', Bool.not_eq_false', bne_iff_ne, ne_eq, bne_eq_false_iff_eq, beq_iff_eq, beq_eq_false_iff_ne, decide_eq_true_eq, decide_eq_false_iff_not, gt_iff_lt, ge_iff_le] at h11
   rw [hvl] at h11; omega

end Go.Proofs.Ytkpbpeajkfgfiaa
