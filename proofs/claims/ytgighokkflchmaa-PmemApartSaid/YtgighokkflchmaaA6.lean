/- PmemApart, walked. -/
import Derived.Test.YtgighokkflchmaaA1
import Derived.Test.YtgighokkflchmaaA3
import Derived.Test.YtgighokkflchmaaA4
import Derived.Test.YtgighokkflchmaaA5
import Derived.Test.YtgighokkflchmaaQ6
import Derived.Test.YtgighokkflchmaaQ2
set_option linter.unusedVariables false
set_option linter.unusedSimpArgs false
namespace Go.Proofs.Ytgighokkflchmaa
open Go Go.Wk

def covL (X : List Ln) (F : List RdF) : Prop := ∀ x ∈ X, ∀ f ∈ lnF x, f ∈ F
theorem covL_snoc {X : List Ln} {F : List RdF} (h : covL X F) (x : Ln) : covL (X ++ [x]) (lnF x ++ F) := fun y hy f hf => by
  rcases List.mem_append.1 hy with h1 | h1
  · exact List.mem_append_right _ (h y h1 f hf)
  · rw [List.mem_singleton.1 h1] at hf
    exact List.mem_append_left _ hf
theorem covT_snoc {Y : List Td} {F G : List RdF} {t : Td} (h : ∀ y ∈ Y, TdOk y F) (ht : TdOk t G) : ∀ y ∈ Y ++ [t], TdOk y (G ++ F) := fun y hy => by
  rcases List.mem_append.1 hy with h1 | h1
  · exact (h y h1).mono fun f hf => List.mem_append_right _ hf
  · rw [List.mem_singleton.1 h1]
    exact ht.mono fun f hf => List.mem_append_left _ hf
section
variable {Γ : Ctx} {E : Env} {H : List Res} {φ : Act → World → Prop}
theorem At.readIs (i : Nat) {L : List RdF} {f : RdF} (hi : H[i]? = some (readsR L)) (hf : f ∈ L) (k : ∀ A c, f.v = .slice A f.n c → At Γ E H φ) : At Γ E H φ := fun a w ha hw => by
  obtain ⟨A, c, hv, _⟩ := ((hw.all _ (List.mem_of_getElem? hi)) f hf).1
  exact k A c hv a w ha hw
theorem At.rowAs (i : Nat) {v : Value} {e sz n n' : Nat} {xs xs' : List Value} (hi : H[i]? = some (rowR v e sz n xs)) (hn : n = n') (hx : xs = xs') (k : At Γ E (H.set i (rowR v e sz n' xs')) φ) : At Γ E H φ := by
  subst hn hx
  rwa [set_same hi] at k
end
theorem reads_hF {w w0 : World} {S : Nat → Prop} {H : List Res} {i : Nat} {F : List RdF} (hw : Rep w0 S H w) (hi : H[i]? = some (readsR F)) : ∀ f ∈ F, Rd w f.v f.sz f.n f.xs := fun f hf => ((hw.all _ (List.mem_of_getElem? hi)) f hf).1
theorem cov_hX {w w0 : World} {S : Nat → Prop} {H : List Res} {i : Nat} {X : List Ln} {F : List RdF} (hw : Rep w0 S H w) (hi : H[i]? = some (readsR F)) (h : covL X F) : ∀ x ∈ X, ∀ f ∈ lnF x, Rd w f.v f.sz f.n f.xs := fun x hx f hf => reads_hF hw hi f (h x hx f hf)
theorem rowK_rd {w w0 : World} {S : Nat → Prop} {H : List Res} {i : Nat} {v : Value} {e sz n : Nat} {xs : List Value} (hw : Rep w0 S H w) (hi : H[i]? = some (rowR v e sz n xs)) (hsz : 0 < sz) : Rd w v sz n xs := row_rd (hw.row hi) hsz
theorem bnd_snoc {X : List Ln} {x : Ln} (h : ∀ y ∈ X, y.n ≤ 1000000) (hx : x.n ≤ 1000000) : ∀ y ∈ X ++ [x], y.n ≤ 1000000 := fun y hy => by
  rcases List.mem_append.1 hy with h1 | h1
  · exact h y h1
  · rw [List.mem_singleton.1 h1]; exact hx
theorem all_len {x : Ln} : (lnC x).length = 3 := rfl


theorem news_le {N : Nat} (hN : 0 < N) (L : List Nt) (hL : L.length ≤ 400) : ∀ u ∈ (run N (zeroD N) L).ws, u.news.length ≤ 400 := by
  have key : ∀ n, n ≤ L.length → ∀ (k : Nat) (u : Wd), (run N (zeroD N) (L.take n)).ws[k]? = some u → u.news.length ≤ n := by
    intro n
    induction n with
    | zero =>
      intro _ k u hu
      rw [List.take_zero] at hu
      have := (List.mem_replicate.1 (List.mem_of_getElem? hu)).2
      subst this; exact Nat.le_refl _
    | succ n ih =>
      intro hn k u hu
      obtain ⟨q, hq⟩ : ∃ q, L[n]? = some q := ⟨_, List.getElem?_eq_getElem (by omega)⟩
      rw [take_succ_of_get hq, run_snoc] at hu
      obtain ⟨_, _, hl⟩ := run_rest hN (L.take n) (zeroD N) (zeroD_len N) rfl
      have ih' := ih (by omega)
      generalize run N (zeroD N) (L.take n) = σ at *
      unfold noteD at hu
      split at hu
      · obtain ⟨w, hw⟩ : ∃ w, σ.ws[wordI q.2.1 N]? = some w := ⟨_, List.getElem?_eq_getElem (by rw [hl]; exact wordI_lt _ hN)⟩
        rw [hw] at hu
        by_cases e : wordI q.2.1 N = k
        · subst e
          rw [setD_self (σ := stepD σ) hw] at hu
          obtain rfl := Option.some.inj hu
          have := ih' _ _ hw
          simp only [pushW, List.length_append, List.length_singleton]; omega
        · have hu' : σ.ws[k]? = some u := by unfold setD at hu; simp only at hu; rw [List.getElem?_set_ne e] at hu; exact hu
          have := ih' _ _ hu'; omega
      · split at hu
        · have hkl : k < σ.ws.length := by
            have := (List.getElem?_eq_some_iff.1 hu).1
            have h4 := (flushK_rest (stepD σ) (8 * (wordI q.2.1 N / 8)) 8).2.2.2.1
            rw [h4] at this; exact this
          obtain ⟨m, e1, _⟩ := flushK_at (σ := stepD σ) (f := 8 * (wordI q.2.1 N / 8)) (show (stepD σ).ws[k]? = some _ from List.getElem?_eq_getElem hkl) 8
          rw [e1] at hu
          obtain rfl := Option.some.inj hu
          have := ih' k _ (List.getElem?_eq_getElem hkl)
          show (σ.ws[k]).news.length ≤ n + 1
          omega
        · have hkl : k < σ.ws.length := by
            have := (List.getElem?_eq_some_iff.1 hu).1
            simpa [fenceD, stepD] using this
          rw [fenceD_at (σ := stepD σ) (show (stepD σ).ws[k]? = some _ from List.getElem?_eq_getElem hkl)] at hu
          obtain rfl := Option.some.inj hu
          have := ih' k _ (List.getElem?_eq_getElem hkl)
          have h2 : (fenceW (σ.ws[k])).news.length ≤ (σ.ws[k]).news.length := by unfold fenceW; split; exact Nat.le_refl _; simp
          exact Nat.le_trans h2 (by omega)
  intro u hu
  obtain ⟨k, hk⟩ := List.getElem?_of_mem hu
  have := key L.length (Nat.le_refl _) k u (by rwa [List.take_length])
  omega

theorem lawApart_p (pg : Int) (va vb : Value) (L : List Nt) (cs : List Int) (w : World) (hv1 : RdN w va L) (hv2 : RdI w vb cs) (hl1 : L.length ≤ 8796093022144) (hl2 : cs.length ≤ 17592186043904) :
    PureC Try.prog 3 [.int .i64 pg, va, vb] (.bool true) w := by
 refine enter0 Try.func3 rfl Try.ntmps3 rfl ?_
 obtain ⟨N, hNe⟩ : ∃ N, N = sizeW pg := ⟨_, rfl⟩
 obtain ⟨hN1, hN2, hN3⟩ := sizeW_ok pg
 have hsz := sizeW_size pg
 rw [← hNe] at hN1 hN2 hN3 hsz
 have hN0 : 0 < N := by omega
 simp only [envOf]
 refine tR ?_
 refine tA rfl rfl ?_
 refine tE ?_
 refine tR ?_
 refine tM rfl rfl ?_
 refine At.callP (fun w hw => size_p _ w) Try.call4 rfl rfl ?_
 refine tA rfl rfl ?_
 refine At.nil ?_
 rw [← hNe]
 refine At.thenN ?_
 refine tR ?_
 refine tM rfl rfl ?_
 refine At.callNB (fun w hw => made_d _ N w hsz rfl) Try.call5 rfl rfl (fun p1 y2 => ?_)
 refine tM rfl rfl ?_
 refine At.val (Val.extract rfl rfl) rfl rfl rfl ?_
 refine At.val (Val.extract rfl rfl) rfl rfl rfl ?_
 refine tA rfl rfl ?_
 refine tA rfl rfl ?_
 refine tE ?_
 refine tR ?_
 refine tM rfl rfl ?_
 refine At.callNB (fun w hw => made_d _ N w hsz rfl) Try.call5 rfl rfl (fun p3 y4 => ?_)
 refine tM rfl rfl ?_
 refine At.val (Val.extract rfl rfl) rfl rfl rfl ?_
 refine At.val (Val.extract rfl rfl) rfl rfl rfl ?_
 refine tA rfl rfl ?_
 refine tA rfl rfl ?_
 refine tE ?_
 refine At.seq ?_
 refine tR ?_
 refine tM rfl rfl ?_
 refine At.val (Val.not rfl) rfl rfl rfl ?_
 refine tM rfl rfl ?_
 refine At.yes rfl rfl ?_
 refine tM rfl rfl ?_
 refine At.yes rfl rfl ?_
 refine At.val (Val.not rfl) rfl rfl rfl ?_
 refine At.val (Val.pickF rfl rfl) rfl rfl rfl ?_
 refine tE ?_
 refine At.condF rfl ?_
 refine At.skipC ?_
 refine At.thenN ?_
 refine tR ?_
 refine tA rfl rfl ?_
 refine tE ?_
 refine tR ?_
 refine tA rfl rfl ?_
 refine tE ?_
 refine At.seq ?_
 refine At.seq ?_
 refine At.rowNil 47 5 ?_
 refine At.rowNil 42 3 ?_
 refine At.readsNil ?_
 refine At.readsNil ?_
 refine At.bring 4 rfl ?_
 simp only [ec0, ecS]
 refine At.bring 5 rfl ?_
 simp only [ec0, ecS]
 refine At.region ?_
 refine tA rfl rfl ?_
 refine tE ?_
 refine At.block ?_
 skip
 refine At.loop (σ := Nat × (Gh × Gh) × (List Ln × List RdF × Value) × (List Td × List RdF × Value)) (fun s => (s.1 ≤ L.length ∧ s.1 ≤ 50 ∧ s.2.2.1.1.length = 3 * s.1 ∧ s.2.2.2.1.length = s.1) ∧ covL s.2.2.1.1 s.2.2.1.2.1 ∧ (∀ y ∈ s.2.2.1.1, y.n ≤ 1000000) ∧ (∀ y ∈ s.2.2.2.1, TdOk y s.2.2.2.2.1)) (fun s => [(0, .int .i64 pg), (1, va), (2, vb), (7, .int .i64 (8 * (N : Int))), (8, .pointer (some ⟨p1, 0, none⟩)), (10, .pointer (some ⟨p3, 0, none⟩)), (12, s.2.2.1.2.2), (13, s.2.2.2.2.2), (14, .int .i64 (s.1 : Int))]) (fun s => [Dev p1 s.2.1.1 (run N (zeroD N) (L.take s.1)), Dev p3 s.2.1.2 (run N (zeroD N) (L.take s.1)), readsR s.2.2.1.2.1, readsR s.2.2.2.2.1, rowR s.2.2.1.2.2 42 3 ((s.2.2.1.1).length) ((s.2.2.1.1).flatMap lnC), rowR s.2.2.2.2.2 47 5 ((s.2.2.2.1).length) ((s.2.2.2.1).flatMap tdC)]) (fun s => L.length - s.1) (0, (y2, y4), ([], [], .slice none 0 0), ([], [], .slice none 0 0)) ⟨⟨Nat.zero_le _, Nat.zero_le _, rfl, rfl⟩, (fun x h => by cases h), (fun x h => by cases h), (fun x h => by cases h)⟩ (Sub.cons rfl (Sub.cons rfl (Sub.cons rfl (Sub.cons rfl (Sub.cons rfl (Sub.cons rfl (Sub.cons rfl (Sub.cons rfl (Sub.cons rfl Sub.nil))))))))) (List.Perm.refl _) ?_
 intro s hs
 obtain ⟨i, ⟨γ1, γ2⟩, ⟨X, FX, vx⟩, ⟨Y, FY, vy⟩⟩ := s
 dsimp only at hs ⊢
 obtain ⟨⟨hiL, hi50, hXl, hYl⟩, hcX, hbX, hcY⟩ := hs
 obtain ⟨hst, har, hle⟩ := run_rest hN0 (L.take i) (zeroD N) (zeroD_len N) rfl
 have hst' : (run N (zeroD N) (L.take i)).steps = i := by rw [hst, List.length_take]; show 0 + _ = _; omega
 refine At.seq ?_
 refine tR ?_
 refine At.weaken [(0, _), (1, _), (2, _), (7, _), (8, _), (10, _), (12, _), (13, _), (14, _)] (Sub.cons rfl (Sub.cons rfl (Sub.cons rfl (Sub.cons rfl (Sub.cons rfl (Sub.cons rfl (Sub.cons rfl (Sub.cons rfl (Sub.cons rfl Sub.nil))))))))) ?_
 refine At.boolMeet 8 47 (decide (i < L.length ∧ i < 50)) ?_ ?_
 ·skip
  simp only [List.take_succ_cons, List.take_zero]
  refine tM rfl rfl ?_
  refine tM rfl rfl ?_
  refine At.val (Val.lenRd hv1 Try.underlying22 rfl) rfl rfl rfl ?_
  refine At.val (Val.bin rfl rfl rfl) rfl rfl rfl ?_
  refine tM rfl rfl ?_
  refine At.split (t := 44) rfl (fun h5 => ?_) (fun h5 => ?_)
  ·skip
   try simp only [hasB, isSizeB, Bool.not_eq_true', Bool.not_eq_false', bne_iff_ne, ne_eq, bne_eq_false_iff_eq, beq_iff_eq, beq_eq_false_iff_ne, decide_eq_true_eq, decide_eq_false_iff_not, gt_iff_lt, ge_iff_le] at h5
   refine At.yes rfl rfl ?_
   refine tM rfl rfl ?_
   refine At.yes rfl rfl ?_
   refine At.val (Val.bin rfl rfl rfl) rfl rfl rfl ?_
   refine At.val (Val.pickT rfl rfl) rfl rfl rfl ?_
   refine At.nil ?_
   exact At.boolEnd rfl (by apply Bool.eq_iff_iff.2; (simp only [decide_eq_true_eq, Bool.false_eq_true, false_iff, true_iff, gt_iff_lt, ge_iff_le]) <;> omega) (by repeat (first | exact Sub.nil | refine Sub.cons rfl ?_))
  ·skip
   try simp only [hasB, isSizeB, Bool.not_eq_true', Bool.not_eq_false', bne_iff_ne, ne_eq, bne_eq_false_iff_eq, beq_iff_eq, beq_eq_false_iff_ne, decide_eq_true_eq, decide_eq_false_iff_not, gt_iff_lt, ge_iff_le] at h5
   refine At.no rfl rfl rfl rfl ?_
   refine At.no rfl rfl rfl rfl ?_
   refine At.val (Val.pickF rfl rfl) rfl rfl rfl ?_
   refine At.nil ?_
   exact At.boolEnd rfl (by apply Bool.eq_iff_iff.2; (simp only [decide_eq_true_eq, Bool.false_eq_true, false_iff, true_iff, gt_iff_lt, ge_iff_le]) <;> omega) (by repeat (first | exact Sub.nil | refine Sub.cons rfl ?_))
 ·skip
  simp only [List.drop_succ_cons, List.drop_zero]
  refine tE ?_
  refine At.cond rfl (fun h6 => ?_) (fun h6 => ?_)
  ·skip
   try simp only [hasB, isSizeB, Bool.not_eq_true', Bool.not_eq_false', bne_iff_ne, ne_eq, bne_eq_false_iff_eq, beq_iff_eq, beq_eq_false_iff_ne, decide_eq_true_eq, decide_eq_false_iff_not, gt_iff_lt, ge_iff_le] at h6
   obtain ⟨q, hq⟩ : ∃ q, L[i]? = some q := ⟨_, List.getElem?_eq_getElem (by omega)⟩
   obtain ⟨hm1, hm2, _, hm4⟩ := noteD_rest q hN0 hle
   have har1 : (noteD N (run N (zeroD N) (L.take i)) q).armed = false := hm2.trans har
   have hws : wordI q.2.1 N < N := wordI_lt _ hN0
   have hAl : (((wbytes (viewWs (noteD N (run N (zeroD N) (L.take i)) q).ws)).drop (8 * wordI q.2.1 N)).take 8).length = 8 := by rw [List.length_take, List.length_drop, wbytes_length, viewWs, List.length_map, hm4]; omega
   have hCl : (wbytes (picked (noteD N (run N (zeroD N) (L.take i)) q).ws (pkC (noteD N (run N (zeroD N) (L.take i)) q).ws cs))).length = 8 * N := by rw [wbytes_length, picked_length, hm4]
   have hVl : (wbytes (viewWs (noteD N (run N (zeroD N) (L.take i)) q).ws)).length = 8 * N := by rw [wbytes_length, viewWs, List.length_map, hm4]
   refine At.skipC ?_
   refine At.thenN ?_
   refine At.seq ?_
   refine At.block ?_
   refine tR ?_
   refine tM rfl rfl ?_
   refine tM rfl rfl ?_
   refine tM rfl rfl ?_
   refine At.idxN hv1 Try.underlying22 Try.sizeOf34 rfl rfl (by omega) (by omega) rfl rfl (fun b7 o8 q9 hq10 hc11 hd12 he13 hO14 => ?_)
   obtain rfl : q = q9 := Option.some.inj (hq.symm.trans (by have := hq10; rwa [Int.toNat_natCast] at this))
   refine At.val (Val.loadN Try.isAgg34 Try.sizeOf34 rfl hc11 hd12 he13 (fun h => h)) rfl rfl rfl ?_
   refine tM rfl rfl ?_
   refine At.callD 0 rfl (fun w hw hr => note_d _ _ _ q N w hle (by omega) (dead_of har) hr) Try.call6 rfl rfl (fun y15 => ?_)
   simp only [sc0, scS]
   refine tA rfl rfl ?_
   refine tE ?_
   refine tR ?_
   refine tM rfl rfl ?_
   refine tM rfl rfl ?_
   refine tM rfl rfl ?_
   refine At.idxN hv1 Try.underlying22 Try.sizeOf34 rfl rfl (by omega) (by omega) rfl rfl (fun b16 o17 q18 hq19 hc20 hd21 he22 hO23 => ?_)
   obtain rfl : q = q18 := Option.some.inj (hq.symm.trans (by have := hq19; rwa [Int.toNat_natCast] at this))
   refine At.val (Val.loadN Try.isAgg34 Try.sizeOf34 rfl hc20 hd21 he22 (fun h => h)) rfl rfl rfl ?_
   refine tM rfl rfl ?_
   refine At.callD 1 rfl (fun w hw hr => note_d _ _ _ q N w hle (by omega) (dead_of har) hr) Try.call6 rfl rfl (fun y24 => ?_)
   simp only [sc0, scS]
   refine tA rfl rfl ?_
   refine tE ?_
   refine At.seq ?_
   refine tR ?_
   refine tM rfl rfl ?_
   refine At.val (Val.bin rfl rfl rfl) rfl rfl rfl ?_
   refine tM rfl rfl ?_
   refine At.yes rfl rfl ?_
   refine tM rfl rfl ?_
   refine At.yes rfl rfl ?_
   refine At.val (Val.bin rfl rfl rfl) rfl rfl rfl ?_
   refine At.val (Val.pickF rfl rfl) rfl rfl rfl ?_
   refine tE ?_
   refine At.condF rfl ?_
   refine At.skipC ?_
   refine At.thenN ?_
   refine tR ?_
   refine tM rfl rfl ?_
   refine tM rfl rfl ?_
   refine At.idxN hv1 Try.underlying22 Try.sizeOf34 rfl rfl (by omega) (by omega) rfl rfl (fun b25 o26 q27 hq28 hc29 hd30 he31 hO32 => ?_)
   obtain rfl : q = q27 := Option.some.inj (hq.symm.trans (by have := hq28; rwa [Int.toNat_natCast] at this))
   refine At.val (Val.field (o26 + 1) rfl fo_34_1 rfl) rfl rfl rfl ?_
   refine At.val (Val.loadOld Try.isAgg3 rfl hd30 (fun h => h)) rfl rfl rfl ?_
   refine tM rfl rfl ?_
   refine At.callP (fun w hw => (by have h0 := word_p q.2.1 N w (by omega) (by omega); rw [show 8 * (wordI q.2.1 N : Int) = ((8 * wordI q.2.1 N : Nat) : Int) from by omega] at h0; exact h0)) Try.call7 rfl rfl ?_
   refine tA rfl rfl ?_
   refine tE ?_
   refine tR ?_
   refine tM rfl rfl ?_
   refine tM rfl rfl ?_
   refine At.callRKT 0 rfl (fun w hw hr => read_s _ _ _ (8 * wordI q.2.1 N) 8 w (by rw [hm4]; omega) hr) Try.call8 rfl rfl (fun v33 => ?_)
   refine tM rfl rfl ?_
   refine At.val (Val.extract rfl rfl) rfl rfl rfl ?_
   refine At.val (Val.extract rfl rfl) rfl rfl rfl ?_
   refine tA rfl rfl ?_
   refine tA rfl rfl ?_
   refine tE ?_
   refine tR ?_
   refine tM rfl rfl ?_
   refine tM rfl rfl ?_
   refine At.callRK 1 rfl (fun w hw hr => crash_k _ _ _ vb cs w (hv2.mod hw.mod) (hv2.off (hw.newFoot (List.mem_of_getElem? (i := 1) rfl))) hr) Try.call9 rfl rfl (fun v34 => ?_)
   refine tA rfl rfl ?_
   refine tE ?_
   refine tR ?_
   refine tM rfl rfl ?_
   refine At.callRK 2 rfl (fun w hw hr => view_k _ _ _ w hr) Try.call10 rfl rfl (fun v35 => ?_)
   refine tA rfl rfl ?_
   refine tE ?_
   refine At.seq ?_
   refine tR ?_
   refine tM rfl rfl ?_
   refine At.val (Val.bin rfl rfl rfl) rfl rfl rfl ?_
   refine tM rfl rfl ?_
   refine At.yes rfl rfl ?_
   refine tM rfl rfl ?_
   refine At.yes rfl rfl ?_
   refine At.val (Val.lenRow (i := 2) Try.underlying36 rfl rfl) rfl rfl rfl ?_
   refine At.yes rfl rfl ?_
   refine At.val (Val.bin rfl rfl rfl) rfl rfl rfl ?_
   rw [show ((((((wbytes (viewWs (noteD N (run N (zeroD N) (L.take i)) q).ws)).drop (8 * wordI q.2.1 N)).take 8)).length : Int) != 8) = false from by rw [bne_eq_false_iff_eq]; omega]
   refine At.val (Val.pickF rfl rfl) rfl rfl rfl ?_
   refine tM rfl rfl ?_
   refine At.yes rfl rfl ?_
   refine tM rfl rfl ?_
   refine At.yes rfl rfl ?_
   refine At.val (Val.lenRow (i := 1) Try.underlying36 rfl rfl) rfl rfl rfl ?_
   refine At.yes rfl rfl ?_
   refine tM rfl rfl ?_
   refine At.yes rfl rfl ?_
   refine At.val (Val.bin rfl rfl rfl) rfl rfl rfl ?_
   rw [show ((((wbytes (picked (noteD N (run N (zeroD N) (L.take i)) q).ws (pkC (noteD N (run N (zeroD N) (L.take i)) q).ws cs)))).length : Int) != 8 * (N : Int)) = false from by rw [bne_eq_false_iff_eq]; omega]
   refine At.val (Val.pickF rfl rfl) rfl rfl rfl ?_
   refine tM rfl rfl ?_
   refine At.yes rfl rfl ?_
   refine tM rfl rfl ?_
   refine At.yes rfl rfl ?_
   refine At.val (Val.lenRow (i := 0) Try.underlying36 rfl rfl) rfl rfl rfl ?_
   refine At.yes rfl rfl ?_
   refine tM rfl rfl ?_
   refine At.yes rfl rfl ?_
   refine At.val (Val.bin rfl rfl rfl) rfl rfl rfl ?_
   rw [show ((((wbytes (viewWs (noteD N (run N (zeroD N) (L.take i)) q).ws))).length : Int) != 8 * (N : Int)) = false from by rw [bne_eq_false_iff_eq]; omega]
   refine At.val (Val.pickF rfl rfl) rfl rfl rfl ?_
   refine tE ?_
   refine At.condF rfl ?_
   refine At.skipC ?_
   refine At.thenN ?_
   refine tR ?_
   refine tM rfl rfl ?_
   refine tM rfl rfl ?_
   refine tM rfl rfl ?_
   first | refine At.val (Val.mulI rfl rfl (by omega) (by omega)) rfl rfl rfl ?_ | refine At.val (Val.bin rfl rfl rfl) rfl rfl rfl ?_
   first | refine At.val (Val.addI rfl rfl (by omega) (by omega)) rfl rfl rfl ?_ | refine At.val (Val.bin rfl rfl rfl) rfl rfl rfl ?_
   rw [show 3 * (i : Int) + 1 = ((3 * i + 1 : Nat) : Int) from by omega]
   refine At.val (Val.toB Try.underlying3 Try.underlying5 rfl (Int.natCast_nonneg _)) rfl rfl rfl ?_
   rw [Int.toNat_natCast]
   refine At.rowIs (i := 2) rfl (fun A1 c1 hv => ?_)
   subst hv
   refine At.callG 2 rfl (fun w hw hr => lend_g _ (((wbytes (viewWs (noteD N (run N (zeroD N) (L.take i)) q).ws)).drop (8 * wordI q.2.1 N)).take 8) (UInt8.ofNat (3 * i + 1)) w (by omega) hr) Try.call11 rfl rfl (fun g1 _ => ?_)
   simp only [sc0, scS]
   refine At.readIs 2 rfl (List.mem_cons_self ..) (fun G1 d1 hv => ?_)
   dsimp only at hv
   subst hv
   refine At.buildSl (fun a ha => by simp only [List.map_toArray, List.map_cons, List.map_nil, ha.eval (x := (.tmp 113)) rfl]; try rfl) (bs_28_1 _ _ _ _ _ _ _ ) rfl (fun b36 => ?_)
   refine At.append (i := 8) (sz := 3) (by_ := 56) (ys := lnC (⟨.slice A1 ((((wbytes (viewWs (noteD N (run N (zeroD N) (L.take i)) q).ws)).drop (8 * wordI q.2.1 N)).take 8)).length c1, .slice G1 (((((wbytes (viewWs (noteD N (run N (zeroD N) (L.take i)) q).ws)).drop (8 * wordI q.2.1 N)).take 8)).length + 9) d1, ((((wbytes (viewWs (noteD N (run N (zeroD N) (L.take i)) q).ws)).drop (8 * wordI q.2.1 N)).take 8)).length, UInt8.ofNat (3 * i + 1)⟩ : Ln)) Try.underlying28 info_42 rfl rfl rfl rfl rfl rfl rfl rfl rfl (fun w hw j u hj => by rw [Nat.zero_add]; exact ((hw.blk (i := 0) rfl).cell j).trans hj) (by simp [Value.oneCell', lnC, bv]) (by first | omega | (simp only [List.length_append, List.length_singleton]; omega)) (by first | omega | (simp only [List.length_append, List.length_singleton]; omega)) rfl (fun v37 => ?_)
   simp only [sc0, scS]
   refine At.drop 0 ?_
   simp only [ec0, ecS]
   refine At.rowAs 7 (n' := ((X ++ [(⟨.slice A1 ((((wbytes (viewWs (noteD N (run N (zeroD N) (L.take i)) q).ws)).drop (8 * wordI q.2.1 N)).take 8)).length c1, .slice G1 (((((wbytes (viewWs (noteD N (run N (zeroD N) (L.take i)) q).ws)).drop (8 * wordI q.2.1 N)).take 8)).length + 9) d1, ((((wbytes (viewWs (noteD N (run N (zeroD N) (L.take i)) q).ws)).drop (8 * wordI q.2.1 N)).take 8)).length, UInt8.ofNat (3 * i + 1)⟩ : Ln)])).length) (xs' := ((X ++ [(⟨.slice A1 ((((wbytes (viewWs (noteD N (run N (zeroD N) (L.take i)) q).ws)).drop (8 * wordI q.2.1 N)).take 8)).length c1, .slice G1 (((((wbytes (viewWs (noteD N (run N (zeroD N) (L.take i)) q).ws)).drop (8 * wordI q.2.1 N)).take 8)).length + 9) d1, ((((wbytes (viewWs (noteD N (run N (zeroD N) (L.take i)) q).ws)).drop (8 * wordI q.2.1 N)).take 8)).length, UInt8.ofNat (3 * i + 1)⟩ : Ln)])).flatMap lnC) rfl (by simp only [List.length_append, List.length_singleton]) (flat_snoc (f := lnC) _ _).symm ?_
   simp only [sc0, scS]
   refine At.joinAt 2 4 rfl rfl ?_
   simp only [ec0, ecS]
   simp only [sc0, scS]
   refine tA rfl rfl ?_
   refine tE ?_
   refine tR ?_
   refine tM rfl rfl ?_
   refine tM rfl rfl ?_
   refine tM rfl rfl ?_
   first | refine At.val (Val.mulI rfl rfl (by omega) (by omega)) rfl rfl rfl ?_ | refine At.val (Val.bin rfl rfl rfl) rfl rfl rfl ?_
   first | refine At.val (Val.addI rfl rfl (by omega) (by omega)) rfl rfl rfl ?_ | refine At.val (Val.bin rfl rfl rfl) rfl rfl rfl ?_
   rw [show 3 * (i : Int) + 2 = ((3 * i + 2 : Nat) : Int) from by omega]
   refine At.val (Val.toB Try.underlying3 Try.underlying5 rfl (Int.natCast_nonneg _)) rfl rfl rfl ?_
   rw [Int.toNat_natCast]
   refine At.rowIs (i := 1) rfl (fun A2 c2 hv => ?_)
   subst hv
   refine At.callG 1 rfl (fun w hw hr => lend_g _ (wbytes (picked (noteD N (run N (zeroD N) (L.take i)) q).ws (pkC (noteD N (run N (zeroD N) (L.take i)) q).ws cs))) (UInt8.ofNat (3 * i + 2)) w (by omega) hr) Try.call11 rfl rfl (fun g2 _ => ?_)
   simp only [sc0, scS]
   refine At.readIs 1 rfl (List.mem_cons_self ..) (fun G2 d2 hv => ?_)
   dsimp only at hv
   subst hv
   refine At.buildSl (fun a ha => by simp only [List.map_toArray, List.map_cons, List.map_nil, ha.eval (x := (.tmp 122)) rfl]; try rfl) (bs_28_1 _ _ _ _ _ _ _ ) rfl (fun b38 => ?_)
   refine At.append (i := 7) (sz := 3) (by_ := 56) (ys := lnC (⟨.slice A2 ((wbytes (picked (noteD N (run N (zeroD N) (L.take i)) q).ws (pkC (noteD N (run N (zeroD N) (L.take i)) q).ws cs)))).length c2, .slice G2 (((wbytes (picked (noteD N (run N (zeroD N) (L.take i)) q).ws (pkC (noteD N (run N (zeroD N) (L.take i)) q).ws cs)))).length + 9) d2, ((wbytes (picked (noteD N (run N (zeroD N) (L.take i)) q).ws (pkC (noteD N (run N (zeroD N) (L.take i)) q).ws cs)))).length, UInt8.ofNat (3 * i + 2)⟩ : Ln)) Try.underlying28 info_42 rfl rfl rfl rfl rfl rfl rfl rfl rfl (fun w hw j u hj => by rw [Nat.zero_add]; exact ((hw.blk (i := 0) rfl).cell j).trans hj) (by simp [Value.oneCell', lnC, bv]) (by first | omega | (simp only [List.length_append, List.length_singleton]; omega)) (by first | omega | (simp only [List.length_append, List.length_singleton]; omega)) rfl (fun v39 => ?_)
   simp only [sc0, scS]
   refine At.drop 0 ?_
   simp only [ec0, ecS]
   refine At.rowAs 6 (n' := (((X ++ [(⟨.slice A1 ((((wbytes (viewWs (noteD N (run N (zeroD N) (L.take i)) q).ws)).drop (8 * wordI q.2.1 N)).take 8)).length c1, .slice G1 (((((wbytes (viewWs (noteD N (run N (zeroD N) (L.take i)) q).ws)).drop (8 * wordI q.2.1 N)).take 8)).length + 9) d1, ((((wbytes (viewWs (noteD N (run N (zeroD N) (L.take i)) q).ws)).drop (8 * wordI q.2.1 N)).take 8)).length, UInt8.ofNat (3 * i + 1)⟩ : Ln)]) ++ [(⟨.slice A2 ((wbytes (picked (noteD N (run N (zeroD N) (L.take i)) q).ws (pkC (noteD N (run N (zeroD N) (L.take i)) q).ws cs)))).length c2, .slice G2 (((wbytes (picked (noteD N (run N (zeroD N) (L.take i)) q).ws (pkC (noteD N (run N (zeroD N) (L.take i)) q).ws cs)))).length + 9) d2, ((wbytes (picked (noteD N (run N (zeroD N) (L.take i)) q).ws (pkC (noteD N (run N (zeroD N) (L.take i)) q).ws cs)))).length, UInt8.ofNat (3 * i + 2)⟩ : Ln)])).length) (xs' := (((X ++ [(⟨.slice A1 ((((wbytes (viewWs (noteD N (run N (zeroD N) (L.take i)) q).ws)).drop (8 * wordI q.2.1 N)).take 8)).length c1, .slice G1 (((((wbytes (viewWs (noteD N (run N (zeroD N) (L.take i)) q).ws)).drop (8 * wordI q.2.1 N)).take 8)).length + 9) d1, ((((wbytes (viewWs (noteD N (run N (zeroD N) (L.take i)) q).ws)).drop (8 * wordI q.2.1 N)).take 8)).length, UInt8.ofNat (3 * i + 1)⟩ : Ln)]) ++ [(⟨.slice A2 ((wbytes (picked (noteD N (run N (zeroD N) (L.take i)) q).ws (pkC (noteD N (run N (zeroD N) (L.take i)) q).ws cs)))).length c2, .slice G2 (((wbytes (picked (noteD N (run N (zeroD N) (L.take i)) q).ws (pkC (noteD N (run N (zeroD N) (L.take i)) q).ws cs)))).length + 9) d2, ((wbytes (picked (noteD N (run N (zeroD N) (L.take i)) q).ws (pkC (noteD N (run N (zeroD N) (L.take i)) q).ws cs)))).length, UInt8.ofNat (3 * i + 2)⟩ : Ln)])).flatMap lnC) rfl (by simp only [List.length_append, List.length_singleton]) (flat_snoc (f := lnC) _ _).symm ?_
   simp only [sc0, scS]
   refine At.joinAt 1 3 rfl rfl ?_
   simp only [ec0, ecS]
   simp only [sc0, scS]
   refine tA rfl rfl ?_
   refine tE ?_
   refine tR ?_
   refine tM rfl rfl ?_
   refine tM rfl rfl ?_
   refine tM rfl rfl ?_
   first | refine At.val (Val.mulI rfl rfl (by omega) (by omega)) rfl rfl rfl ?_ | refine At.val (Val.bin rfl rfl rfl) rfl rfl rfl ?_
   first | refine At.val (Val.addI rfl rfl (by omega) (by omega)) rfl rfl rfl ?_ | refine At.val (Val.bin rfl rfl rfl) rfl rfl rfl ?_
   rw [show 3 * (i : Int) + 3 = ((3 * i + 3 : Nat) : Int) from by omega]
   refine At.val (Val.toB Try.underlying3 Try.underlying5 rfl (Int.natCast_nonneg _)) rfl rfl rfl ?_
   rw [Int.toNat_natCast]
   refine At.rowIs (i := 0) rfl (fun A3 c3 hv => ?_)
   subst hv
   refine At.callG 0 rfl (fun w hw hr => lend_g _ (wbytes (viewWs (noteD N (run N (zeroD N) (L.take i)) q).ws)) (UInt8.ofNat (3 * i + 3)) w (by omega) hr) Try.call11 rfl rfl (fun g3 _ => ?_)
   simp only [sc0, scS]
   refine At.readIs 0 rfl (List.mem_cons_self ..) (fun G3 d3 hv => ?_)
   dsimp only at hv
   subst hv
   refine At.buildSl (fun a ha => by simp only [List.map_toArray, List.map_cons, List.map_nil, ha.eval (x := (.tmp 131)) rfl]; try rfl) (bs_28_1 _ _ _ _ _ _ _ ) rfl (fun b40 => ?_)
   refine At.append (i := 6) (sz := 3) (by_ := 56) (ys := lnC (⟨.slice A3 ((wbytes (viewWs (noteD N (run N (zeroD N) (L.take i)) q).ws))).length c3, .slice G3 (((wbytes (viewWs (noteD N (run N (zeroD N) (L.take i)) q).ws))).length + 9) d3, ((wbytes (viewWs (noteD N (run N (zeroD N) (L.take i)) q).ws))).length, UInt8.ofNat (3 * i + 3)⟩ : Ln)) Try.underlying28 info_42 rfl rfl rfl rfl rfl rfl rfl rfl rfl (fun w hw j u hj => by rw [Nat.zero_add]; exact ((hw.blk (i := 0) rfl).cell j).trans hj) (by simp [Value.oneCell', lnC, bv]) (by first | omega | (simp only [List.length_append, List.length_singleton]; omega)) (by first | omega | (simp only [List.length_append, List.length_singleton]; omega)) rfl (fun v41 => ?_)
   simp only [sc0, scS]
   refine At.drop 0 ?_
   simp only [ec0, ecS]
   refine At.rowAs 5 (n' := ((((X ++ [(⟨.slice A1 ((((wbytes (viewWs (noteD N (run N (zeroD N) (L.take i)) q).ws)).drop (8 * wordI q.2.1 N)).take 8)).length c1, .slice G1 (((((wbytes (viewWs (noteD N (run N (zeroD N) (L.take i)) q).ws)).drop (8 * wordI q.2.1 N)).take 8)).length + 9) d1, ((((wbytes (viewWs (noteD N (run N (zeroD N) (L.take i)) q).ws)).drop (8 * wordI q.2.1 N)).take 8)).length, UInt8.ofNat (3 * i + 1)⟩ : Ln)]) ++ [(⟨.slice A2 ((wbytes (picked (noteD N (run N (zeroD N) (L.take i)) q).ws (pkC (noteD N (run N (zeroD N) (L.take i)) q).ws cs)))).length c2, .slice G2 (((wbytes (picked (noteD N (run N (zeroD N) (L.take i)) q).ws (pkC (noteD N (run N (zeroD N) (L.take i)) q).ws cs)))).length + 9) d2, ((wbytes (picked (noteD N (run N (zeroD N) (L.take i)) q).ws (pkC (noteD N (run N (zeroD N) (L.take i)) q).ws cs)))).length, UInt8.ofNat (3 * i + 2)⟩ : Ln)]) ++ [(⟨.slice A3 ((wbytes (viewWs (noteD N (run N (zeroD N) (L.take i)) q).ws))).length c3, .slice G3 (((wbytes (viewWs (noteD N (run N (zeroD N) (L.take i)) q).ws))).length + 9) d3, ((wbytes (viewWs (noteD N (run N (zeroD N) (L.take i)) q).ws))).length, UInt8.ofNat (3 * i + 3)⟩ : Ln)])).length) (xs' := ((((X ++ [(⟨.slice A1 ((((wbytes (viewWs (noteD N (run N (zeroD N) (L.take i)) q).ws)).drop (8 * wordI q.2.1 N)).take 8)).length c1, .slice G1 (((((wbytes (viewWs (noteD N (run N (zeroD N) (L.take i)) q).ws)).drop (8 * wordI q.2.1 N)).take 8)).length + 9) d1, ((((wbytes (viewWs (noteD N (run N (zeroD N) (L.take i)) q).ws)).drop (8 * wordI q.2.1 N)).take 8)).length, UInt8.ofNat (3 * i + 1)⟩ : Ln)]) ++ [(⟨.slice A2 ((wbytes (picked (noteD N (run N (zeroD N) (L.take i)) q).ws (pkC (noteD N (run N (zeroD N) (L.take i)) q).ws cs)))).length c2, .slice G2 (((wbytes (picked (noteD N (run N (zeroD N) (L.take i)) q).ws (pkC (noteD N (run N (zeroD N) (L.take i)) q).ws cs)))).length + 9) d2, ((wbytes (picked (noteD N (run N (zeroD N) (L.take i)) q).ws (pkC (noteD N (run N (zeroD N) (L.take i)) q).ws cs)))).length, UInt8.ofNat (3 * i + 2)⟩ : Ln)]) ++ [(⟨.slice A3 ((wbytes (viewWs (noteD N (run N (zeroD N) (L.take i)) q).ws))).length c3, .slice G3 (((wbytes (viewWs (noteD N (run N (zeroD N) (L.take i)) q).ws))).length + 9) d3, ((wbytes (viewWs (noteD N (run N (zeroD N) (L.take i)) q).ws))).length, UInt8.ofNat (3 * i + 3)⟩ : Ln)])).flatMap lnC) rfl (by simp only [List.length_append, List.length_singleton]) (flat_snoc (f := lnC) _ _).symm ?_
   simp only [sc0, scS]
   refine At.joinAt 0 2 rfl rfl ?_
   simp only [ec0, ecS]
   simp only [sc0, scS]
   refine tA rfl rfl ?_
   refine tE ?_
   refine At.seq ?_
   have hnews := news_le hN0 (L.take i ++ [q]) (by rw [List.length_append, List.length_take]; simp; omega)
   rw [run_snoc] at hnews
   refine At.region ?_
   refine tM rfl rfl ?_
   refine tM rfl rfl ?_
   refine At.callDB 0 rfl (fun w hw hr => doubts_k _ _ _ w hr) Try.call13 rfl rfl (fun v42 Q43 hQ44 => ?_)
   refine tM rfl rfl ?_
   have hQl : Q43.length ≤ 65536 := by have h1 := congrArg List.length hQ44; rw [List.length_map, dts_length] at h1; have h2 := dk_le (noteD N (run N (zeroD N) (L.take i)) q).ws; omega
   have hQb : ∀ x ∈ Q43, x.1.2.2.length ≤ 1000000 := fun x hx => by
     obtain ⟨k, hk⟩ := List.getElem?_of_mem hx
     obtain ⟨wd, hwm, hwn⟩ := dts_news (fst_at hQ44 hk)
     have h1 := hnews wd hwm
     rw [hwn]; omega
   refine At.callG 0 rfl (fun w hw hr => lendDoubts_g _ Q43 i w (by omega) hQl hQb hr) Try.call12 rfl rfl (fun y hy9 => ?_)
   simp only [sc0, scS]
   obtain ⟨hok, hym⟩ := hy9
   skip
   refine At.readIs 0 rfl hok.fl (fun Tl el hvl => ?_)
   refine At.readIs 0 rfl hok.fg (fun Tg eg hvg => ?_)
   refine At.readIs 0 rfl hok.fnn (fun Tn en hvn => ?_)
   refine At.readIs 0 rfl hok.faa (fun Ta ea hva => ?_)
   simp only at hvl hvg hvn hva
   rw [hvl, hvg, hvn, hva]
   refine At.buildSl (fun a ha => by simp only [List.map_toArray, List.map_cons, List.map_nil, ha.eval (x := (.tmp 138)) rfl]; try rfl) (bs_29_1 _ _ _ _ _ _ _ _ _ _ _ _ _) rfl (fun b45 => ?_)
   refine At.append (i := 7) (sz := 5) (by_ := 104) (ys := [.slice Tl y.1.Q.length el, .slice Tg (y.1.Q.length + 3) eg, .slice Tn y.1.Q.length en, .slice Ta y.1.Q.length ea, .int .i64 (y.1.m : Int)]) Try.underlying29 info_47 rfl rfl rfl rfl rfl rfl rfl rfl rfl (fun w hw j u hj => by rw [Nat.zero_add]; exact ((hw.blk (i := 0) rfl).cell j).trans hj) (by simp [Value.oneCell']) (by omega) (by omega) rfl (fun v46 => ?_)
   simp only [sc0, scS]
   refine At.drop 0 ?_
   simp only [ec0, ecS]
   refine At.rowAs 6 (n' := (Y ++ [y.1]).length) (xs' := (Y ++ [y.1]).flatMap tdC) rfl (by simp only [List.length_append, List.length_singleton]) (by rw [← hvl, ← hvg, ← hvn, ← hva]; exact (flat_snoc (f := tdC) _ _).symm) ?_
   simp only [sc0, scS]
   refine At.joinAt 0 3 rfl rfl ?_
   simp only [ec0, ecS]
   simp only [sc0, scS]
   refine tA rfl rfl ?_
   refine tE ?_
   refine At.seq ?_
   have hcX3 := covL_snoc (covL_snoc (covL_snoc hcX (⟨.slice A1 ((((wbytes (viewWs (noteD N (run N (zeroD N) (L.take i)) q).ws)).drop (8 * wordI q.2.1 N)).take 8)).length c1, .slice G1 (((((wbytes (viewWs (noteD N (run N (zeroD N) (L.take i)) q).ws)).drop (8 * wordI q.2.1 N)).take 8)).length + 9) d1, ((((wbytes (viewWs (noteD N (run N (zeroD N) (L.take i)) q).ws)).drop (8 * wordI q.2.1 N)).take 8)).length, UInt8.ofNat (3 * i + 1)⟩ : Ln)) (⟨.slice A2 ((wbytes (picked (noteD N (run N (zeroD N) (L.take i)) q).ws (pkC (noteD N (run N (zeroD N) (L.take i)) q).ws cs)))).length c2, .slice G2 (((wbytes (picked (noteD N (run N (zeroD N) (L.take i)) q).ws (pkC (noteD N (run N (zeroD N) (L.take i)) q).ws cs)))).length + 9) d2, ((wbytes (picked (noteD N (run N (zeroD N) (L.take i)) q).ws (pkC (noteD N (run N (zeroD N) (L.take i)) q).ws cs)))).length, UInt8.ofNat (3 * i + 2)⟩ : Ln)) (⟨.slice A3 ((wbytes (viewWs (noteD N (run N (zeroD N) (L.take i)) q).ws))).length c3, .slice G3 (((wbytes (viewWs (noteD N (run N (zeroD N) (L.take i)) q).ws))).length + 9) d3, ((wbytes (viewWs (noteD N (run N (zeroD N) (L.take i)) q).ws))).length, UInt8.ofNat (3 * i + 3)⟩ : Ln)
   have hbX3 := bnd_snoc (x := (⟨.slice A3 ((wbytes (viewWs (noteD N (run N (zeroD N) (L.take i)) q).ws))).length c3, .slice G3 (((wbytes (viewWs (noteD N (run N (zeroD N) (L.take i)) q).ws))).length + 9) d3, ((wbytes (viewWs (noteD N (run N (zeroD N) (L.take i)) q).ws))).length, UInt8.ofNat (3 * i + 3)⟩ : Ln)) (bnd_snoc (x := (⟨.slice A2 ((wbytes (picked (noteD N (run N (zeroD N) (L.take i)) q).ws (pkC (noteD N (run N (zeroD N) (L.take i)) q).ws cs)))).length c2, .slice G2 (((wbytes (picked (noteD N (run N (zeroD N) (L.take i)) q).ws (pkC (noteD N (run N (zeroD N) (L.take i)) q).ws cs)))).length + 9) d2, ((wbytes (picked (noteD N (run N (zeroD N) (L.take i)) q).ws (pkC (noteD N (run N (zeroD N) (L.take i)) q).ws cs)))).length, UInt8.ofNat (3 * i + 2)⟩ : Ln)) (bnd_snoc (x := (⟨.slice A1 ((((wbytes (viewWs (noteD N (run N (zeroD N) (L.take i)) q).ws)).drop (8 * wordI q.2.1 N)).take 8)).length c1, .slice G1 (((((wbytes (viewWs (noteD N (run N (zeroD N) (L.take i)) q).ws)).drop (8 * wordI q.2.1 N)).take 8)).length + 9) d1, ((((wbytes (viewWs (noteD N (run N (zeroD N) (L.take i)) q).ws)).drop (8 * wordI q.2.1 N)).take 8)).length, UInt8.ofNat (3 * i + 1)⟩ : Ln)) hbX (by simp only; omega)) (by simp only; omega)) (by simp only; omega)
   refine At.region ?_
   refine tM rfl rfl ?_
   refine At.callP (fun w hw => kept_p _ (((X ++ [(⟨.slice A1 ((((wbytes (viewWs (noteD N (run N (zeroD N) (L.take i)) q).ws)).drop (8 * wordI q.2.1 N)).take 8)).length c1, .slice G1 (((((wbytes (viewWs (noteD N (run N (zeroD N) (L.take i)) q).ws)).drop (8 * wordI q.2.1 N)).take 8)).length + 9) d1, ((((wbytes (viewWs (noteD N (run N (zeroD N) (L.take i)) q).ws)).drop (8 * wordI q.2.1 N)).take 8)).length, UInt8.ofNat (3 * i + 1)⟩ : Ln)]) ++ [(⟨.slice A2 ((wbytes (picked (noteD N (run N (zeroD N) (L.take i)) q).ws (pkC (noteD N (run N (zeroD N) (L.take i)) q).ws cs)))).length c2, .slice G2 (((wbytes (picked (noteD N (run N (zeroD N) (L.take i)) q).ws (pkC (noteD N (run N (zeroD N) (L.take i)) q).ws cs)))).length + 9) d2, ((wbytes (picked (noteD N (run N (zeroD N) (L.take i)) q).ws (pkC (noteD N (run N (zeroD N) (L.take i)) q).ws cs)))).length, UInt8.ofNat (3 * i + 2)⟩ : Ln)]) ++ [(⟨.slice A3 ((wbytes (viewWs (noteD N (run N (zeroD N) (L.take i)) q).ws))).length c3, .slice G3 (((wbytes (viewWs (noteD N (run N (zeroD N) (L.take i)) q).ws))).length + 9) d3, ((wbytes (viewWs (noteD N (run N (zeroD N) (L.take i)) q).ws))).length, UInt8.ofNat (3 * i + 3)⟩ : Ln)]) w (rowK_rd hw (i := 4) rfl (by decide)) (cov_hX hw (i := 2) rfl hcX3) hbX3 (by simp only [List.length_append, List.length_singleton]; omega)) Try.call14 rfl rfl ?_
   refine At.val (Val.not rfl) rfl rfl rfl ?_
   refine tM rfl rfl ?_
   refine At.yes rfl rfl ?_
   refine tM rfl rfl ?_
   refine At.yes rfl rfl ?_
   refine At.callP (fun w hw => keptDoubts_p _ (Y ++ [y.1]) (y.2 ++ FY) w (rowK_rd hw (i := 5) rfl (by decide)) (reads_hF hw (i := 3) rfl) (covT_snoc hcY hok) (by simp only [List.length_append, List.length_singleton]; omega)) Try.call15 rfl rfl ?_
   refine At.yes rfl rfl ?_
   refine At.val (Val.not rfl) rfl rfl rfl ?_
   refine At.val (Val.pickF rfl rfl) rfl rfl rfl ?_
   refine tM rfl rfl ?_
   refine At.yes rfl rfl ?_
   refine tM rfl rfl ?_
   refine At.yes rfl rfl ?_
   refine tM rfl rfl ?_
   refine At.yes rfl rfl ?_
   refine At.bring 1 rfl ?_
   simp only [ec0, ecS]
   refine At.bring 1 rfl ?_
   simp only [ec0, ecS]
   refine At.callKS [Dev p1 y15 ((noteD N (run N (zeroD N) (L.take i)) q)), Dev p3 y24 ((noteD N (run N (zeroD N) (L.take i)) q))] rfl (fun w hw hr => alike_k _ _ _ _ _ _ w rfl hr) Try.call16 rfl rfl ?_
   refine At.yes rfl rfl ?_
   refine At.val (Val.not rfl) rfl rfl rfl ?_
   refine At.val (Val.pickF rfl rfl) rfl rfl rfl ?_
   refine tE ?_
   refine At.condF rfl ?_
   refine At.skipC ?_
   refine At.blkN ?_
   refine At.thenN ?_
   refine At.region ?_
   refine tM rfl rfl ?_
   first | refine At.val (Val.addI rfl rfl (by omega) (by omega)) rfl rfl rfl ?_ | refine At.val (Val.bin rfl rfl rfl) rfl rfl rfl ?_
   refine tA rfl rfl ?_
   refine tE ?_
   exact At.again (i + 1, (y15, y24), ((((X ++ [(⟨.slice A1 ((((wbytes (viewWs (noteD N (run N (zeroD N) (L.take i)) q).ws)).drop (8 * wordI q.2.1 N)).take 8)).length c1, .slice G1 (((((wbytes (viewWs (noteD N (run N (zeroD N) (L.take i)) q).ws)).drop (8 * wordI q.2.1 N)).take 8)).length + 9) d1, ((((wbytes (viewWs (noteD N (run N (zeroD N) (L.take i)) q).ws)).drop (8 * wordI q.2.1 N)).take 8)).length, UInt8.ofNat (3 * i + 1)⟩ : Ln)]) ++ [(⟨.slice A2 ((wbytes (picked (noteD N (run N (zeroD N) (L.take i)) q).ws (pkC (noteD N (run N (zeroD N) (L.take i)) q).ws cs)))).length c2, .slice G2 (((wbytes (picked (noteD N (run N (zeroD N) (L.take i)) q).ws (pkC (noteD N (run N (zeroD N) (L.take i)) q).ws cs)))).length + 9) d2, ((wbytes (picked (noteD N (run N (zeroD N) (L.take i)) q).ws (pkC (noteD N (run N (zeroD N) (L.take i)) q).ws cs)))).length, UInt8.ofNat (3 * i + 2)⟩ : Ln)]) ++ [(⟨.slice A3 ((wbytes (viewWs (noteD N (run N (zeroD N) (L.take i)) q).ws))).length c3, .slice G3 (((wbytes (viewWs (noteD N (run N (zeroD N) (L.take i)) q).ws))).length + 9) d3, ((wbytes (viewWs (noteD N (run N (zeroD N) (L.take i)) q).ws))).length, UInt8.ofNat (3 * i + 3)⟩ : Ln)]), (lnF (⟨.slice A3 ((wbytes (viewWs (noteD N (run N (zeroD N) (L.take i)) q).ws))).length c3, .slice G3 (((wbytes (viewWs (noteD N (run N (zeroD N) (L.take i)) q).ws))).length + 9) d3, ((wbytes (viewWs (noteD N (run N (zeroD N) (L.take i)) q).ws))).length, UInt8.ofNat (3 * i + 3)⟩ : Ln) ++ (lnF (⟨.slice A2 ((wbytes (picked (noteD N (run N (zeroD N) (L.take i)) q).ws (pkC (noteD N (run N (zeroD N) (L.take i)) q).ws cs)))).length c2, .slice G2 (((wbytes (picked (noteD N (run N (zeroD N) (L.take i)) q).ws (pkC (noteD N (run N (zeroD N) (L.take i)) q).ws cs)))).length + 9) d2, ((wbytes (picked (noteD N (run N (zeroD N) (L.take i)) q).ws (pkC (noteD N (run N (zeroD N) (L.take i)) q).ws cs)))).length, UInt8.ofNat (3 * i + 2)⟩ : Ln) ++ (lnF (⟨.slice A1 ((((wbytes (viewWs (noteD N (run N (zeroD N) (L.take i)) q).ws)).drop (8 * wordI q.2.1 N)).take 8)).length c1, .slice G1 (((((wbytes (viewWs (noteD N (run N (zeroD N) (L.take i)) q).ws)).drop (8 * wordI q.2.1 N)).take 8)).length + 9) d1, ((((wbytes (viewWs (noteD N (run N (zeroD N) (L.take i)) q).ws)).drop (8 * wordI q.2.1 N)).take 8)).length, UInt8.ofNat (3 * i + 1)⟩ : Ln) ++ FX))), v41), (Y ++ [y.1], y.2 ++ FY, v46)) ⟨⟨(show i + 1 ≤ _ by omega), (show i + 1 ≤ 50 by omega), by simp only [List.length_append, List.length_singleton]; omega, by simp only [List.length_append, List.length_singleton]; omega⟩, covL_snoc (covL_snoc (covL_snoc hcX _) _) _, hbX3, covT_snoc hcY hok⟩ (by dsimp only; omega) (Sub.cons rfl (Sub.cons rfl (Sub.cons rfl (Sub.cons rfl (Sub.cons rfl (Sub.cons rfl (Sub.cons rfl (Sub.cons rfl (Sub.cons (congrArg (fun z => some (Value.int IntKind.i64 z)) (by omega)) Sub.nil))))))))) (by dsimp only; rw [take_succ_of_get hq, run_snoc])
  ·skip
   try simp only [hasB, isSizeB, Bool.not_eq_true', Bool.not_eq_false', bne_iff_ne, ne_eq, bne_eq_false_iff_eq, beq_iff_eq, beq_eq_false_iff_ne, decide_eq_true_eq, decide_eq_false_iff_not, gt_iff_lt, ge_iff_le] at h6
   have hVl : (wbytes (viewWs (run N (zeroD N) (L.take i)).ws)).length = 8 * N := by rw [wbytes_length, viewWs, List.length_map, hle]
   have hCl : (wbytes (picked (run N (zeroD N) (L.take i)).ws (pkC (run N (zeroD N) (L.take i)).ws cs))).length = 8 * N := by rw [wbytes_length, picked_length, hle]
   have hszV : isSizeB (((wbytes (viewWs (run N (zeroD N) (L.take i)).ws)).length : Nat) : Int) = true := by rw [hVl]; rw [show ((8 * N : Nat) : Int) = 8 * (N : Int) from by omega]; exact hsz
   have hneC : ((wbytes (picked (run N (zeroD N) (L.take i)).ws (pkC (run N (zeroD N) (L.take i)).ws cs)) ++ beh 24).map bv) ≠ [] := fun h9 => by have := congrArg List.length h9; rw [List.length_map, List.length_append, hCl] at this; simp at this; omega
   refine At.exitC ?_
   refine At.thenX ?_
   refine At.thenX ?_
   refine At.blkX ?_
   refine At.thenN ?_
   refine tR ?_
   refine tM rfl rfl ?_
   refine At.callP (fun w hw => kept_p _ X w (rowK_rd hw (i := 4) rfl (by decide)) (cov_hX hw (i := 2) rfl hcX) hbX (by omega)) Try.call14 rfl rfl ?_
   refine tM rfl rfl ?_
   refine At.yes rfl rfl ?_
   refine tM rfl rfl ?_
   refine At.yes rfl rfl ?_
   refine At.callP (fun w hw => keptDoubts_p _ Y FY w (rowK_rd hw (i := 5) rfl (by decide)) (reads_hF hw (i := 3) rfl) hcY (by omega)) Try.call15 rfl rfl ?_
   refine At.val (Val.pickT rfl rfl) rfl rfl rfl ?_
   refine tM rfl rfl ?_
   refine At.yes rfl rfl ?_
   refine tM rfl rfl ?_
   refine At.yes rfl rfl ?_
   refine tM rfl rfl ?_
   refine At.yes rfl rfl ?_
   refine At.bring 1 rfl ?_
   simp only [ec0, ecS]
   refine At.bring 1 rfl ?_
   simp only [ec0, ecS]
   refine At.callKS [Dev p1 γ1 (run N (zeroD N) (L.take i)), Dev p3 γ2 (run N (zeroD N) (L.take i))] rfl (fun w hw hr => alike_k _ _ _ _ _ _ w rfl hr) Try.call16 rfl rfl ?_
   refine At.val (Val.pickT rfl rfl) rfl rfl rfl ?_
   refine tM rfl rfl ?_
   refine At.yes rfl rfl ?_
   refine tM rfl rfl ?_
   refine At.yes rfl rfl ?_
   refine At.callRK 0 rfl (fun w hw hr => view_k _ _ _ w hr) Try.call10 rfl rfl (fun v47 => ?_)
   refine At.yes rfl rfl ?_
   refine tM rfl rfl ?_
   refine At.yes rfl rfl ?_
   refine tM rfl rfl ?_
   refine At.yes rfl rfl ?_
   refine At.callRK 1 rfl (fun w hw hr => crash_k _ _ _ vb cs w (hv2.mod hw.mod) (hv2.off (hw.newFoot (List.mem_of_getElem? (i := 1) rfl))) hr) Try.call9 rfl rfl (fun v48 => ?_)
   refine At.yes rfl rfl ?_
   refine tM rfl rfl ?_
   refine At.yes rfl rfl ?_
   refine At.callP (fun w hw => lentIn_p _ _ _ (wbytes (viewWs (run N (zeroD N) (L.take i)).ws)) (wbytes (picked (run N (zeroD N) (L.take i)).ws (pkC (run N (zeroD N) (L.take i)).ws cs))) cs N w (row_rd (hw.row (i := 1) rfl) (by decide)) (row_rd (hw.row (i := 0) rfl) (by decide)) (hv2.mod hw.mod) hszV (by omega) (by omega) (by omega) hl2 hneC) Try.call17 rfl rfl ?_
   refine At.val (Val.pickT rfl rfl) rfl rfl rfl ?_
   refine tA rfl rfl ?_
   refine tE ?_
   refine At.retC ?_
   refine At.ret1 (.inl rfl) rfl rfl rfl (fun w hw => ?_)
   exact ⟨rfl, hw.mod⟩

end Go.Proofs.Ytgighokkflchmaa
