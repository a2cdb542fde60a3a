/- PmemFuse: the walk. -/
import Derived.Test.YtkpbpeajkfgfiaaQ6
set_option linter.unusedVariables false
set_option linter.unusedSimpArgs false
namespace Go.Proofs.Ytkpbpeajkfgfiaa
open Go Go.Wk

theorem setD_arm (σ : Ds) (k : Nat) (w : Wd) (m : Nat) : setD (armD σ m) k w = armD (setD σ k w) m := rfl
theorem flushK_arm (σ : Ds) (f m : Nat) : ∀ j, flushK (armD σ m) f j = armD (flushK σ f j) m
  | 0 => rfl
  | j + 1 => by
    have h := flushK_arm σ f m j
    show (match (flushK (armD σ m) f j).ws[f + j]? with | some w => setD (flushK (armD σ m) f j) (f + j) (markW w) | none => flushK (armD σ m) f j) = armD (match (flushK σ f j).ws[f + j]? with | some w => setD (flushK σ f j) (f + j) (markW w) | none => flushK σ f j) m
    rw [h]
    show (match (flushK σ f j).ws[f + j]? with | some w => setD (armD (flushK σ f j) m) (f + j) (markW w) | none => armD (flushK σ f j) m) = _
    cases (flushK σ f j).ws[f + j]? with
    | none => rfl
    | some w => rfl
theorem stepD_arm {σ : Ds} (h : σ.armed = false) (m : Nat) : stepD (armD σ (m + 1)) = armD (stepD σ) m := by
  unfold stepD armD; simp
/-- A note on a device that is armed is the note, with one step less to go. -/
theorem noteD_arm {N : Nat} {σ : Ds} (h : σ.armed = false) (c : Nt) (m : Nat) (hN : 0 < N) (hl : σ.ws.length = N) : noteD N (armD σ (m + 1)) c = armD (noteD N σ c) m := by
  unfold noteD
  rw [stepD_arm h]
  split
  · obtain ⟨w, hw⟩ : ∃ w, σ.ws[wordI c.2.1 N]? = some w := ⟨_, List.getElem?_eq_getElem (by rw [hl]; exact wordI_lt _ hN)⟩
    rw [hw, show (armD σ (m + 1)).ws[wordI c.2.1 N]? = some w from hw]
    rfl
  · split
    · exact flushK_arm _ _ _ _
    · rfl
theorem dead_arm (σ : Ds) (m : Nat) : deadB (armD σ m) = decide (m = 0) := by unfold deadB armD; simp
def fuseI (z : Int) : Int := if z < 0 then -(z + 1) else z

theorem lawFuse_p (pg z : Int) (v1 : Value) (L : List Nt) (w : World) (hz : -9223372036854775808 ≤ z ∧ z ≤ 9223372036854775807) (hv1 : RdN w v1 L) (hl1 : L.length ≤ 8796093022144) :
    PureC Try.prog 6 [.int .i64 pg, v1, .int .i64 z] (.bool true) w := by
 refine enter0 Try.func6 rfl Try.ntmps6 rfl ?_
 obtain ⟨N, hNe⟩ : ∃ N, N = sizeW pg := ⟨_, rfl⟩
 obtain ⟨hN1, hN2, hN3⟩ := sizeW_ok pg
 have hsz := sizeW_size pg
 rw [← hNe] at hN1 hN2 hN3 hsz
 have hN0 : 0 < N := by omega
 simp only [envOf]
 refine tR ?_
 refine tA rfl rfl ?_
 refine tE ?_
 refine tR ?_
 refine tM rfl rfl ?_
 refine At.callP (fun w hw => size_p _ w) Try.call18 rfl rfl ?_
 refine tA rfl rfl ?_
 refine At.nil ?_
 rw [← hNe]
 refine At.thenN ?_
 refine tR ?_
 refine tM rfl rfl ?_
 refine At.callNB (fun w hw => made_d _ N w hsz rfl) Try.call19 rfl rfl (fun p1 y2 => ?_)
 refine tM rfl rfl ?_
 refine At.val (Val.extract rfl rfl) rfl rfl rfl ?_
 refine At.val (Val.extract rfl rfl) rfl rfl rfl ?_
 refine tA rfl rfl ?_
 refine tA rfl rfl ?_
 refine tE ?_
 refine tR ?_
 refine tM rfl rfl ?_
 refine At.callNB (fun w hw => made_d _ N w hsz rfl) Try.call19 rfl rfl (fun p3 y4 => ?_)
 refine tM rfl rfl ?_
 refine At.val (Val.extract rfl rfl) rfl rfl rfl ?_
 refine At.val (Val.extract rfl rfl) rfl rfl rfl ?_
 refine tA rfl rfl ?_
 refine tA rfl rfl ?_
 refine tE ?_
 refine At.seq ?_
 refine tR ?_
 refine tM rfl rfl ?_
 refine At.val (Val.not rfl) rfl rfl rfl ?_
 refine tM rfl rfl ?_
 refine At.yes rfl rfl ?_
 refine tM rfl rfl ?_
 refine At.yes rfl rfl ?_
 refine At.val (Val.not rfl) rfl rfl rfl ?_
 refine At.val (Val.pickF rfl rfl) rfl rfl rfl ?_
 refine tE ?_
 refine At.condF rfl ?_
 refine At.skipC ?_
 refine At.thenN ?_
 refine At.join (σ := Int) (fun x => x = fuseI z) (fun x => [(1, v1), (2, .int .i64 x), (7, .int .i64 (8 * (N : Int))), (8, .pointer (some ⟨p1, 0, none⟩)), (10, .pointer (some ⟨p3, 0, none⟩))]) (fun x => [Dev p3 y4 (zeroD N), Dev p1 y2 (zeroD N)]) ?_ ?_
 ·skip
  refine tR ?_
  refine tM rfl rfl ?_
  refine At.val (Val.bin rfl rfl rfl) rfl rfl rfl ?_
  refine tE ?_
  refine At.cond rfl (fun h5 => ?_) (fun h5 => ?_)
  ·skip
   try simp only [hasB, isSizeB, Bool.not_eq_true', Bool.not_eq_false', bne_iff_ne, ne_eq, bne_eq_false_iff_eq, beq_iff_eq, beq_eq_false_iff_ne, decide_eq_true_eq, decide_eq_false_iff_not, gt_iff_lt, ge_iff_le] at h5
   refine At.region ?_
   refine tM rfl rfl ?_
   first | refine At.val (Val.addI rfl rfl (by omega) (by omega)) rfl rfl rfl ?_ | refine At.val (Val.bin rfl rfl rfl) rfl rfl rfl ?_
   refine At.val (Val.neg rfl) rfl rfl rfl ?_
   rw [wrap_i64 (n := 0 - (z + 1)) (by omega) (by omega)]
   refine tA rfl rfl ?_
   refine tE ?_
   exact At.meets _ (by unfold fuseI; first | (rw [if_pos (by assumption)]; omega) | rw [if_neg (by assumption)]) (Sub.cons rfl (Sub.cons rfl (Sub.cons rfl (Sub.cons rfl (Sub.cons rfl Sub.nil))))) (List.Perm.refl _)
  ·skip
   try simp only [hasB, isSizeB, Bool.not_eq_true', Bool.not_eq_false', bne_iff_ne, ne_eq, bne_eq_false_iff_eq, beq_iff_eq, beq_eq_false_iff_ne, decide_eq_true_eq, decide_eq_false_iff_not, gt_iff_lt, ge_iff_le] at h5
   refine At.skipC ?_
   refine At.thenN ?_
   exact At.meets _ (by unfold fuseI; first | (rw [if_pos (by assumption)]; omega) | rw [if_neg (by assumption)]) (Sub.cons rfl (Sub.cons rfl (Sub.cons rfl (Sub.cons rfl (Sub.cons rfl Sub.nil))))) (List.Perm.refl _)
 ·skip
  intro x hs
  have hx := hs
  unfold fuseI at hx
  refine tR ?_
  refine tM rfl rfl ?_
  refine At.val (Val.remI rfl rfl (by split at hx <;> omega) (by decide)) rfl rfl rfl ?_
  obtain ⟨m, hm⟩ : ∃ m : Nat, x % 401 = (m : Int) := ⟨(x % 401).toNat, by omega⟩
  rw [hm]
  have hm4 : m ≤ 400 := by omega
  refine tA rfl rfl ?_
  refine tE ?_
  refine tR ?_
  refine tM rfl rfl ?_
  refine tM rfl rfl ?_
  refine At.callD 1 rfl (fun w hw hr => arm_d _ _ _ m w (by omega) rfl hr) Try.call36 rfl rfl (fun y6 => ?_)
  simp only [sc0, scS]
  refine tA rfl rfl ?_
  refine tE ?_
  refine At.seq ?_
  refine tR ?_
  refine tM rfl rfl ?_
  refine At.val (Val.bin rfl rfl rfl) rfl rfl rfl ?_
  refine tM rfl rfl ?_
  refine At.yes rfl rfl ?_
  refine tM rfl rfl ?_
  refine At.yes rfl rfl ?_
  refine At.callK 1 rfl (fun w hw hr => dead_k _ _ _ w hr) Try.call37 rfl rfl ?_
  refine At.yes rfl rfl ?_
  refine tM rfl rfl ?_
  refine At.yes rfl rfl ?_
  refine At.val (Val.bin rfl rfl rfl) rfl rfl rfl ?_
  refine At.yes rfl rfl ?_
  refine At.val (Val.neB Try.underlying4 rfl rfl) rfl rfl rfl ?_
  refine At.val (Val.pickF rfl rfl) rfl rfl rfl ?_
  refine tE ?_
  refine At.cond rfl (fun h7 => ?_) (fun h7 => ?_)
  ·skip
   try simp only [hasB, isSizeB, Bool.not_eq_true', Bool.not_eq_false', bne_iff_ne, ne_eq, bne_eq_false_iff_eq, beq_iff_eq, beq_eq_false_iff_ne, decide_eq_true_eq, decide_eq_false_iff_not, gt_iff_lt, ge_iff_le] at h7
   exact absurd (by rw [dead_arm]; apply Bool.eq_iff_iff.2; simp only [decide_eq_true_eq, beq_iff_eq]; omega) h7
  ·skip
   try simp only [hasB, isSizeB, Bool.not_eq_true', Bool.not_eq_false', bne_iff_ne, ne_eq, bne_eq_false_iff_eq, beq_iff_eq, beq_eq_false_iff_ne, decide_eq_true_eq, decide_eq_false_iff_not, gt_iff_lt, ge_iff_le] at h7
   refine At.skipC ?_
   refine At.thenN ?_
   refine At.seq ?_
   refine tR ?_
   refine tA rfl rfl ?_
   refine tE ?_
   refine At.block ?_
   skip
   refine At.loop (σ := Nat × Gh × Gh) (fun s => s.1 ≤ L.length ∧ s.1 ≤ 400) (fun s => [(1, v1), (2, .int .i64 (m : Int)), (7, .int .i64 (8 * (N : Int))), (8, .pointer (some ⟨p1, 0, none⟩)), (10, .pointer (some ⟨p3, 0, none⟩)), (13, .int .i64 (s.1 : Int))]) (fun s => [Dev p3 s.2.2 (run N (zeroD N) (L.take (min s.1 m))), Dev p1 s.2.1 (armD (run N (zeroD N) (L.take (min s.1 m))) (m - min s.1 m))]) (fun s => L.length - s.1) (0, y6, y4) ⟨Nat.zero_le _, Nat.zero_le _⟩ (Sub.cons rfl (Sub.cons rfl (Sub.cons rfl (Sub.cons rfl (Sub.cons rfl (Sub.cons rfl Sub.nil)))))) (by dsimp only; rw [Nat.zero_min, List.take_zero, Nat.sub_zero]; exact List.Perm.refl _) ?_
   intro s hs
   obtain ⟨k, γ1, γ2⟩ := s
   dsimp only at hs ⊢
   obtain ⟨hst, har, hle⟩ := run_rest hN0 (L.take (min k m)) (zeroD N) (zeroD_len N) rfl
   have hst' : (run N (zeroD N) (L.take (min k m))).steps ≤ 400 := by rw [hst, List.length_take]; show 0 + _ ≤ _; omega
   refine At.seq ?_
   refine tR ?_
   refine tM rfl rfl ?_
   refine tM rfl rfl ?_
   refine At.val (Val.lenRd hv1 Try.underlying22 rfl) rfl rfl rfl ?_
   refine At.val (Val.bin rfl rfl rfl) rfl rfl rfl ?_
   refine At.weaken [(1, _), (2, _), (7, _), (8, _), (10, _), (13, _), (56, _)] (Sub.cons rfl (Sub.cons rfl (Sub.cons rfl (Sub.cons rfl (Sub.cons rfl (Sub.cons rfl (Sub.cons rfl Sub.nil))))))) ?_
   refine At.boolMeet 4 60 (decide (k < L.length ∧ k < 400)) ?_ ?_
   ·skip
    simp only [List.take_succ_cons, List.take_zero]
    refine tM rfl rfl ?_
    refine At.split (t := 57) rfl (fun h8 => ?_) (fun h8 => ?_)
    ·skip
     try simp only [hasB, isSizeB, Bool.not_eq_true', Bool.not_eq_false', bne_iff_ne, ne_eq, bne_eq_false_iff_eq, beq_iff_eq, beq_eq_false_iff_ne, decide_eq_true_eq, decide_eq_false_iff_not, gt_iff_lt, ge_iff_le] at h8
     refine At.yes rfl rfl ?_
     refine tM rfl rfl ?_
     refine At.yes rfl rfl ?_
     refine At.val (Val.bin rfl rfl rfl) rfl rfl rfl ?_
     refine At.val (Val.pickT rfl rfl) rfl rfl rfl ?_
     refine At.nil ?_
     exact At.boolEnd rfl (by apply Bool.eq_iff_iff.2; (simp only [decide_eq_true_eq, Bool.false_eq_true, false_iff, true_iff, gt_iff_lt, ge_iff_le]) <;> omega) (by repeat (first | exact Sub.nil | refine Sub.cons rfl ?_))
    ·skip
     try simp only [hasB, isSizeB, Bool.not_eq_true', Bool.not_eq_false', bne_iff_ne, ne_eq, bne_eq_false_iff_eq, beq_iff_eq, beq_eq_false_iff_ne, decide_eq_true_eq, decide_eq_false_iff_not, gt_iff_lt, ge_iff_le] at h8
     refine At.no rfl rfl rfl rfl ?_
     refine At.no rfl rfl rfl rfl ?_
     refine At.val (Val.pickF rfl rfl) rfl rfl rfl ?_
     refine At.nil ?_
     exact At.boolEnd rfl (by apply Bool.eq_iff_iff.2; (simp only [decide_eq_true_eq, Bool.false_eq_true, false_iff, true_iff, gt_iff_lt, ge_iff_le]) <;> omega) (by repeat (first | exact Sub.nil | refine Sub.cons rfl ?_))
   ·skip
    simp only [List.drop_succ_cons, List.drop_zero]
    refine tE ?_
    refine At.cond rfl (fun h9 => ?_) (fun h9 => ?_)
    ·skip
     try simp only [hasB, isSizeB, Bool.not_eq_true', Bool.not_eq_false', bne_iff_ne, ne_eq, bne_eq_false_iff_eq, beq_iff_eq, beq_eq_false_iff_ne, decide_eq_true_eq, decide_eq_false_iff_not, gt_iff_lt, ge_iff_le] at h9
     obtain ⟨q, hq⟩ : ∃ q, L[k]? = some q := ⟨_, List.getElem?_eq_getElem (by omega)⟩
     refine At.skipC ?_
     refine At.thenN ?_
     refine At.seq ?_
     refine At.block ?_
     refine tR ?_
     refine tM rfl rfl ?_
     refine tM rfl rfl ?_
     refine tM rfl rfl ?_
     refine At.idxN hv1 Try.underlying22 Try.sizeOf32 rfl rfl (by omega) (by omega) rfl rfl (fun b10 o11 q12 hq13 hc14 hd15 he16 hO17 => ?_)
     obtain rfl : q = q12 := Option.some.inj (hq.symm.trans (by have := hq13; rwa [Int.toNat_natCast] at this))
     refine At.val (Val.loadN Try.isAgg32 Try.sizeOf32 rfl hc14 hd15 he16 (fun h => h)) rfl rfl rfl ?_
     refine tM rfl rfl ?_
     by_cases hkm : k < m
     ·skip
      rw [show min k m = k from by omega, show m - k = (m - (k + 1)) + 1 from by omega]
      rw [show min k m = k from by omega] at hst har hle hst'
      refine At.callD 1 rfl (fun w hw hr => note_d _ _ _ q N w hle (by show (run N (zeroD N) (L.take k)).steps + 1 ≤ _; omega) (by rw [dead_arm]; simp) hr) Try.call20 rfl rfl (fun y18 => ?_)
      simp only [sc0, scS]
      refine tA rfl rfl ?_
      refine tE ?_
      refine At.seq ?_
      refine tR ?_
      refine tM rfl rfl ?_
      refine tM rfl rfl ?_
      refine At.val (Val.bin rfl rfl rfl) rfl rfl rfl ?_
      rw [decide_eq_false (show ¬ (k : Int) ≥ (m : Int) by omega)]
      refine tE ?_
      refine At.condF rfl ?_
      refine At.skipC ?_
      refine At.thenN ?_
      refine tR ?_
      refine tM rfl rfl ?_
      refine tM rfl rfl ?_
      refine tM rfl rfl ?_
      refine At.idxN hv1 Try.underlying22 Try.sizeOf32 rfl rfl (by omega) (by omega) rfl rfl (fun b19 o20 q21 hq22 hc23 hd24 he25 hO26 => ?_)
      obtain rfl : q = q21 := Option.some.inj (hq.symm.trans (by have := hq22; rwa [Int.toNat_natCast] at this))
      refine At.val (Val.loadN Try.isAgg32 Try.sizeOf32 rfl hc23 hd24 he25 (fun h => h)) rfl rfl rfl ?_
      refine tM rfl rfl ?_
      refine At.callD 0 rfl (fun w hw hr => note_d _ _ _ q N w hle (by omega) (dead_of har) hr) Try.call20 rfl rfl (fun y27 => ?_)
      simp only [sc0, scS]
      refine tA rfl rfl ?_
      refine tE ?_
      refine tR ?_
      refine tM rfl rfl ?_
      refine At.val (Val.bin rfl rfl rfl) rfl rfl rfl ?_
      refine tM rfl rfl ?_
      refine At.yes rfl rfl ?_
      refine tM rfl rfl ?_
      refine At.yes rfl rfl ?_
      refine At.val (Val.bin rfl rfl rfl) rfl rfl rfl ?_
      refine At.val (Val.pickF rfl rfl) rfl rfl rfl ?_
      refine tM rfl rfl ?_
      refine At.yes rfl rfl ?_
      refine tM rfl rfl ?_
      refine At.yes rfl rfl ?_
      refine At.callK 1 rfl (fun w hw hr => dead_k _ _ _ w hr) Try.call37 rfl rfl ?_
      refine At.yes rfl rfl ?_
      refine tM rfl rfl ?_
      refine At.yes rfl rfl ?_
      first | refine At.val (Val.addI rfl rfl (by omega) (by omega)) rfl rfl rfl ?_ | refine At.val (Val.bin rfl rfl rfl) rfl rfl rfl ?_
      refine At.yes rfl rfl ?_
      refine tM rfl rfl ?_
      refine At.yes rfl rfl ?_
      refine At.val (Val.bin rfl rfl rfl) rfl rfl rfl ?_
      refine At.yes rfl rfl ?_
      refine At.val (Val.neB Try.underlying4 rfl rfl) rfl rfl rfl ?_
      refine At.val (Val.pickF rfl rfl) rfl rfl rfl ?_
      refine tE ?_
      refine At.cond rfl (fun h28 => ?_) (fun h28 => ?_)
      ·skip
       try simp only [hasB, isSizeB, Bool.not_eq_true', Bool.not_eq_false', bne_iff_ne, ne_eq, bne_eq_false_iff_eq, beq_iff_eq, beq_eq_false_iff_ne, decide_eq_true_eq, decide_eq_false_iff_not, gt_iff_lt, ge_iff_le] at h28
       exact absurd (by rw [noteD_arm har q _ hN0 hle, dead_arm]; apply Bool.eq_iff_iff.2; simp only [decide_eq_true_eq, beq_iff_eq]; omega) h28
      ·skip
       try simp only [hasB, isSizeB, Bool.not_eq_true', Bool.not_eq_false', bne_iff_ne, ne_eq, bne_eq_false_iff_eq, beq_iff_eq, beq_eq_false_iff_ne, decide_eq_true_eq, decide_eq_false_iff_not, gt_iff_lt, ge_iff_le] at h28
       refine At.skipC ?_
       refine At.blkN ?_
       refine At.thenN ?_
       refine At.region ?_
       refine tM rfl rfl ?_
       first | refine At.val (Val.addI rfl rfl (by omega) (by omega)) rfl rfl rfl ?_ | refine At.val (Val.bin rfl rfl rfl) rfl rfl rfl ?_
       refine tA rfl rfl ?_
       refine tE ?_
       exact At.again (k + 1, y18, y27) ⟨(show k + 1 ≤ _ by omega), (show k + 1 ≤ 400 by omega)⟩ (by dsimp only; omega) (Sub.cons rfl (Sub.cons rfl (Sub.cons rfl (Sub.cons rfl (Sub.cons rfl (Sub.cons (congrArg (fun z => some (Value.int IntKind.i64 z)) (by omega)) Sub.nil)))))) (by dsimp only; rw [show min (k + 1) m = k + 1 from by omega, take_succ_of_get hq, run_snoc, noteD_arm har q _ hN0 hle])
     ·skip
      rw [show min k m = m from by omega, Nat.sub_self]
      rw [show min k m = m from by omega] at hst har hle hst'
      refine At.callK 1 rfl (fun w hw hr => note_0 _ _ _ q N w hle (by rw [dead_arm]; rfl) hr) Try.call20 rfl rfl ?_
      refine tA rfl rfl ?_
      refine tE ?_
      refine At.seq ?_
      refine tR ?_
      refine tM rfl rfl ?_
      refine tM rfl rfl ?_
      refine At.val (Val.bin rfl rfl rfl) rfl rfl rfl ?_
      rw [decide_eq_true (show  (k : Int) ≥ (m : Int) by omega)]
      refine tE ?_
      refine At.condT rfl ?_
      refine At.seq ?_
      refine tR ?_
      refine tM rfl rfl ?_
      refine At.val (Val.bin rfl rfl rfl) rfl rfl rfl ?_
      refine tM rfl rfl ?_
      refine At.yes rfl rfl ?_
      refine tM rfl rfl ?_
      refine At.yes rfl rfl ?_
      refine At.callK 1 rfl (fun w hw hr => dead_k _ _ _ w hr) Try.call37 rfl rfl ?_
      refine At.yes rfl rfl ?_
      refine At.val (Val.not rfl) rfl rfl rfl ?_
      refine At.val (Val.pickF rfl rfl) rfl rfl rfl ?_
      refine tE ?_
      refine At.cond rfl (fun h29 => ?_) (fun h29 => ?_)
      ·skip
       try simp only [hasB, isSizeB, Bool.not_eq_true', Bool.not_eq_false', bne_iff_ne, ne_eq, bne_eq_false_iff_eq, beq_iff_eq, beq_eq_false_iff_ne, decide_eq_true_eq, decide_eq_false_iff_not, gt_iff_lt, ge_iff_le] at h29
       rw [dead_arm] at h29; simp at h29
      ·skip
       try simp only [hasB, isSizeB, Bool.not_eq_true', Bool.not_eq_false', bne_iff_ne, ne_eq, bne_eq_false_iff_eq, beq_iff_eq, beq_eq_false_iff_ne, decide_eq_true_eq, decide_eq_false_iff_not, gt_iff_lt, ge_iff_le] at h29
       refine At.skipC ?_
       refine At.thenN ?_
       refine At.exitC ?_
       refine At.thenX ?_
       refine At.blkX ?_
       refine At.thenN ?_
       refine At.region ?_
       refine tM rfl rfl ?_
       first | refine At.val (Val.addI rfl rfl (by omega) (by omega)) rfl rfl rfl ?_ | refine At.val (Val.bin rfl rfl rfl) rfl rfl rfl ?_
       refine tA rfl rfl ?_
       refine tE ?_
       exact At.again (k + 1, γ1, γ2) ⟨(show k + 1 ≤ _ by omega), (show k + 1 ≤ 400 by omega)⟩ (by dsimp only; omega) (Sub.cons rfl (Sub.cons rfl (Sub.cons rfl (Sub.cons rfl (Sub.cons rfl (Sub.cons (congrArg (fun z => some (Value.int IntKind.i64 z)) (by omega)) Sub.nil)))))) (by dsimp only; rw [show min (k + 1) m = m from by omega, Nat.sub_self])
    ·skip
     try simp only [hasB, isSizeB, Bool.not_eq_true', Bool.not_eq_false', bne_iff_ne, ne_eq, bne_eq_false_iff_eq, beq_iff_eq, beq_eq_false_iff_ne, decide_eq_true_eq, decide_eq_false_iff_not, gt_iff_lt, ge_iff_le] at h9
     refine At.exitC ?_
     refine At.thenX ?_
     refine At.thenX ?_
     refine At.blkX ?_
     refine At.thenN ?_
     refine At.seq ?_
     refine tR ?_
     refine tM rfl rfl ?_
     refine At.callK 1 rfl (fun w hw hr => steps_k _ _ _ w hr) Try.call38 rfl rfl ?_
     refine tM rfl rfl ?_
     refine At.callK 0 rfl (fun w hw hr => steps_k _ _ _ w hr) Try.call38 rfl rfl ?_
     refine At.val (Val.bin rfl rfl rfl) rfl rfl rfl ?_
     refine tM rfl rfl ?_
     refine At.split (t := 107) rfl (fun h30 => ?_) (fun h30 => ?_)
     ·skip
      try simp only [hasB, isSizeB, Bool.not_eq_true', Bool.not_eq_false', bne_iff_ne, ne_eq, bne_eq_false_iff_eq, beq_iff_eq, beq_eq_false_iff_ne, decide_eq_true_eq, decide_eq_false_iff_not, gt_iff_lt, ge_iff_le] at h30
      exact absurd rfl h30
     ·skip
      try simp only [hasB, isSizeB, Bool.not_eq_true', Bool.not_eq_false', bne_iff_ne, ne_eq, bne_eq_false_iff_eq, beq_iff_eq, beq_eq_false_iff_ne, decide_eq_true_eq, decide_eq_false_iff_not, gt_iff_lt, ge_iff_le] at h30
      refine At.yes rfl rfl ?_
      refine tM rfl rfl ?_
      refine At.yes rfl rfl ?_
      refine At.callK 0 rfl (fun w hw hr => (by have h0 := dead_k _ _ _ w hr; rwa [dead_of har] at h0)) Try.call37 rfl rfl ?_
      refine At.val (Val.pickF rfl rfl) rfl rfl rfl ?_
      refine tE ?_
      refine At.condF rfl ?_
      refine At.skipC ?_
      refine At.thenN ?_
      refine tR ?_
      refine tM rfl rfl ?_
      refine tM rfl rfl ?_
      refine At.bring 1 rfl ?_
      simp only [ec0, ecS]
      refine At.callKS [Dev p1 γ1 (armD (run N (zeroD N) (L.take (min k m))) (m - min k m)), Dev p3 γ2 (run N (zeroD N) (L.take (min k m)))] rfl (fun w hw hr => alike_k _ _ _ _ _ _ w rfl hr) Try.call39 rfl rfl ?_
      refine tA rfl rfl ?_
      refine tE ?_
      refine At.retC ?_
      refine At.ret1 (.inl rfl) rfl rfl rfl (fun w hw => ?_)
      exact ⟨rfl, hw.mod⟩

end Go.Proofs.Ytkpbpeajkfgfiaa
