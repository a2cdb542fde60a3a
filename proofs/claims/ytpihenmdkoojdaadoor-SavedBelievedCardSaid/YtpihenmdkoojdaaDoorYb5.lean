/- Parts of the proof, joined: see the law's text. -/
import Derived.Test.YtpihenmdkoojdaaDoorYb4
import Derived.Test.YtpihenmdkoojdaaDoorYb3
import Derived.Test.YtpihenmdkoojdaaDoorYb2
set_option linter.unusedVariables false
set_option linter.unusedSimpArgs false
namespace Go.Proofs.YtpihenmdkoojdaaDoor
open Go Go.Wk
theorem restE_oL {l : List UInt8} {p i c dt : Int} {M : List (Int × Int)} (h : restE l p i c dt M = 0) : oL (area l) = M := by
  unfold restE at h
  split at h
  · exact absurd h (by decide)
  split at h
  · exact absurd h (by decide)
  split at h
  · exact absurd h (by decide)
  split at h
  · exact absurd h (by decide)
  split at h
  · exact absurd h (by decide)
  · rename_i h1; exact Classical.not_not.1 h1
theorem restE_30 {l : List UInt8} {p i c dt : Int} {M : List (Int × Int)} (h : dt ≠ 4 + i / 8 ∨ (l.length : Int) ≠ 512 * p) : restE l p i c dt M = 30 := by
  unfold restE
  rw [if_pos (fun g => h.elim (fun h => h g.2.1) (fun h => h g.2.2))]
theorem num_zeros {l : List UInt8} {a : Nat} : ∀ n, (∀ j, j < n → l[a + j]? = some 0) → num l a n = 0
  | 0, _ => num_zero l a
  | n + 1, h => by rw [num_succ (h n (by omega)), num_zeros n (fun j hj => h j (by omega))]; rfl
theorem cleanT_zeros {l : List UInt8} (h : ∀ j, 128 ≤ j → j < 136 → l[j]? = some 0) : cleanT l = 0 := by
  have e : wdA l 128 = 0 := by unfold wdA; rw [num_zeros 8 (fun j hj => h (128 + j) (by omega) (by omega))]; rfl
  unfold cleanT
  rw [e]
  split <;> rfl
theorem restE_130 {l : List UInt8} {p i c : Int} {M : List (Int × Int)} (hg : GoodSup p i c) (hl : (l.length : Int) = 512 * p) (h : cleanT l = 0) : restE l p i c (4 + i / 8) M = 130 := by
  unfold restE
  rw [if_neg (Classical.not_not.2 ⟨hg, rfl, hl⟩), if_pos h]
theorem set_zeros {l : List UInt8} {k : Nat} (hk : 128 ≤ k) (hl : k < l.length) (h : ∀ j, 128 ≤ j → j < k → l[j]? = some 0) : ∀ j, 128 ≤ j → j < k + 1 → (l.set k 0)[j]? = some 0 := fun j h1 h2 => by
  by_cases e : j = k
  · subst e; rw [List.getElem?_set_self hl]
  · rw [List.getElem?_set_ne (Ne.symm e)]; exact h j h1 (by omega)
theorem lawSavedBelieved_p (pg ino co lf : Int) (vM vW vL : Value) (MS : List Bool) (WS : List (Int × BitVec 64)) (cs : List Int) (w : World) (ht : Tab w) (hvM : Rd w vM 1 MS.length (MS.map Value.bool)) (hmM : MS.length ≤ 140737488355328) (hvW : RdP w vW WS) (hmW : WS.length ≤ 8796093022208) (hvL : RdI w vL cs) (hmL : cs.length ≤ 17592186044416) (hlf : -9223372036854775808 ≤ lf ∧ lf ≤ 9223372036854775807) (vb : Value) (b : List UInt8) (n : Int) (hvb : RdB w vb b) (hmb : b.length ≤ 140737488355328) :
    PureC Tryd.prog 4 [.agg #[.int .i64 pg, .int .i64 ino, .int .i64 co, vM, vW, .int .i64 lf, vL], vb, .int .i64 n] (.bool true) w := by
 refine enter0 Tryd.func4 rfl Tryd.ntmps4 rfl ?_
 obtain ⟨S, hS⟩ : ∃ S, S = shV pg ino co := ⟨_, rfl⟩
 have hS' := shV_ok pg ino co
 rw [← hS] at hS'
 obtain ⟨P, I', C', D'⟩ := S
 dsimp only at hS'
 obtain ⟨hg, rfl⟩ := hS'
 have hg2 := hg
 unfold GoodSup at hg2
 obtain ⟨N, hN⟩ : ∃ N : Nat, 8 * (N : Int) = 512 * P := ⟨(64 * P).toNat, by omega⟩
 obtain ⟨vs0, hv0, hvl0, hv16, ha0, hst0⟩ := devD_ok (N := N) (by omega) (by omega) WS
 obtain ⟨σ0, hσ0⟩ : ∃ σ, σ = devD N WS := ⟨_, rfl⟩
 rw [← hσ0] at hv0 ha0 hst0
 simp only [envOf]
 refine tR ?_
 refine At.box rfl rfl rfl (fun b1 => ?_)
 refine tA rfl rfl ?_
 refine tE ?_
 refine tR ?_
 refine At.val (Val.loadAll (i := 0) Tryd.isAgg26 Tryd.sizeOf26 rfl rfl rfl) rfl rfl rfl ?_
 refine At.callP (fun w hw => (by have h0 := shape_p pg ino co lf vM vW vL w; rw [← hS] at h0; exact h0)) Tryd.call9 rfl rfl ?_
 refine At.alloc Tryd.zeroValue28 rfl rfl (fun b2 => ?_)
 refine At.storeAll (i := 0) Tryd.sizeOf28 rfl rfl rfl (by simp [Value.oneCell']) rfl rfl ?_
 simp only [sc0, scS]
 refine tE ?_
 refine tR ?_
 refine At.val (Val.loadAll (i := 1) Tryd.isAgg26 Tryd.sizeOf26 rfl rfl rfl) rfl rfl rfl ?_
 refine At.callYN (fun w hw => spans_n pg ino co lf vM vW vL MS w (hvM.mod hw.mod) hmM) Tryd.call10 rfl rfl (fun y hI => ?_)
 obtain ⟨vS, L⟩ := y
 dsimp only at hI ⊢
 have hso := hI
 obtain ⟨hsp, hle⟩ := hI
 refine At.rowIs (i := 0) rfl (fun A3 c4 hv => ?_)
 subst hv
 refine tA rfl rfl ?_
 refine tE ?_
 refine tR ?_
 refine At.val (Val.loadAll (i := 2) Tryd.isAgg26 Tryd.sizeOf26 rfl rfl rfl) rfl rfl rfl ?_
 refine At.callNB (fun w hw => (by have h0 := device_n pg ino co lf vM vW vL WS N w (hvW.mod hw.mod) hmW (by rw [← hS]; exact hN); rw [← hσ0] at h0; exact h0)) Tryd.call11 rfl rfl (fun p5 y6 => ?_)
 refine tM rfl rfl ?_
 refine At.val (Val.extract rfl rfl) rfl rfl rfl ?_
 refine At.val (Val.extract rfl rfl) rfl rfl rfl ?_
 refine tA rfl rfl ?_
 refine tA rfl rfl ?_
 refine tE ?_
 refine At.seq ?_
 refine tR ?_
 refine tM rfl rfl ?_
 refine At.val (Val.not rfl) rfl rfl rfl ?_
 refine tE ?_
 refine At.condF rfl ?_
 refine At.skipC ?_
 refine At.thenN ?_
 refine tR ?_
 refine tM rfl rfl ?_
 refine tM rfl rfl ?_
 obtain ⟨vs1, t1, ea1, eb1, hv1, ha1, hl1, hs1, hz1, hr1, hq1, hR1, hst1⟩ := save_x (L := L) hv0 ha0 hg (by omega) hso
 obtain ⟨σ1, hσ1⟩ : ∃ σ, σ = (saveE σ0 L).2.2 := ⟨_, rfl⟩
 rw [← hσ1] at hv1 ha1 hst1
 have hvl1 := hl1.trans hvl0
 refine At.callD 0 rfl (fun w hw hr => (by have h0 := save_d _ _ _ _ L w (ht.mod hw.mod) (Rep.off0 hw ht (fun h => h) (i := 0) rfl) (row_rd (hw.row (i := 1) rfl) (by decide)) (Rep.offRow (i := 1) (j := 0) hw rfl rfl (by decide)) (by first | omega | (simp only [List.length_take, List.length_drop]; omega) | (have h9 := growS_le L; omega)) (by omega) hr; rw [ea1, eb1, ← hσ1] at h0; exact h0)) Tryd.call12 rfl rfl (fun y7 => ?_)
 simp only [sc0, scS]
 refine tM rfl rfl ?_
 refine At.val (Val.extract rfl rfl) rfl rfl rfl ?_
 refine At.val (Val.extract rfl rfl) rfl rfl rfl ?_
 refine tA rfl rfl ?_
 refine tA rfl rfl ?_
 refine tE ?_
 refine tR ?_
 refine tM rfl rfl ?_
 refine At.callRK 0 rfl (fun w hw hr => (by have h0 := view_k _ _ _ w hr; rw [hv1, mkC_view] at h0; exact h0)) Tryd.call13 rfl rfl (fun v8 => ?_)
 refine tA rfl rfl ?_
 refine tE ?_
 refine At.seq ?_
 refine tR ?_
 refine tM rfl rfl ?_
 refine At.val (Val.not rfl) rfl rfl rfl ?_
 refine tM rfl rfl ?_
 refine At.yes rfl rfl ?_
 refine tM rfl rfl ?_
 refine At.yes rfl rfl ?_
 refine At.val (Val.bin rfl rfl rfl) rfl rfl rfl ?_
 refine At.val (Val.pickF rfl rfl) rfl rfl rfl ?_
 refine tM rfl rfl ?_
 refine At.yes rfl rfl ?_
 refine tM rfl rfl ?_
 refine At.yes rfl rfl ?_
 refine At.val (Val.lenRow (i := 0) Tryd.underlying38 rfl rfl) rfl rfl rfl ?_
 refine At.yes rfl rfl ?_
 refine At.val (Val.field 0 rfl fo_28_0 rfl) rfl rfl rfl ?_
 refine At.yes rfl rfl ?_
 refine At.val (Val.load (i := 3) Tryd.isAgg3 rfl rfl rfl) rfl rfl rfl ?_
 refine At.yes rfl rfl ?_
 first | refine At.val (Val.mulI rfl rfl (by omega) (by omega)) rfl rfl rfl ?_ | refine At.val (Val.bin rfl rfl rfl) rfl rfl rfl ?_
 refine At.yes rfl rfl ?_
 refine At.val (Val.bin rfl rfl rfl) rfl rfl rfl ?_
 refine At.val (Val.pickF rfl rfl) rfl rfl rfl ?_
 refine tE ?_
 refine At.cond rfl (fun h9 => ?_) (fun h9 => ?_)
 ·skip
  try simp only [hasB, isSizeB, Bool.not_eq_true', Bool.not_eq_false', bne_iff_ne, ne_eq, bne_eq_false_iff_eq, beq_iff_eq, beq_eq_false_iff_ne, decide_eq_true_eq, decide_eq_false_iff_not, gt_iff_lt, ge_iff_le] at h9
  rw [wbytes_length] at h9; omega
 ·skip
  try simp only [hasB, isSizeB, Bool.not_eq_true', Bool.not_eq_false', bne_iff_ne, ne_eq, bne_eq_false_iff_eq, beq_iff_eq, beq_eq_false_iff_ne, decide_eq_true_eq, decide_eq_false_iff_not, gt_iff_lt, ge_iff_le] at h9
  refine At.skipC ?_
  refine At.thenN ?_
  refine tR ?_
  refine tM rfl rfl ?_
  refine At.val (Val.rem rfl rfl (by decide)) rfl rfl rfl ?_
  have hz := tmod_bd n (b := 1024) (by decide)
  generalize Int.tmod n 1024 = z at hz ⊢
  refine tA rfl rfl ?_
  refine tE ?_
  refine At.join (σ := Int) (fun s => 0 ≤ s ∧ s < 1024) (fun s => [(1, vb), (2, .int .i64 s), (7, .pointer (some ⟨b2, 0, none⟩)), (8, (.slice A3 ((L).length) c4)), (13, v8)]) (fun s => [rowR v8 5 1 ((wbytes vs1).length) ((wbytes vs1).map bv), Dev p5 y7 (σ1), rowR (.slice A3 ((L).length) c4) 51 2 ((L).length) (prS (L)), blk b2 28 ([.int .i64 P, .int .i64 I', .int .i64 C', .int .i64 (4 + I' / 8)])]) ?_ ?_
  ·skip
   refine tR ?_
   refine tM rfl rfl ?_
   refine At.val (Val.bin rfl rfl rfl) rfl rfl rfl ?_
   refine tE ?_
   refine At.cond rfl (fun h10 => ?_) (fun h10 => ?_)
   ·skip
    try simp only [hasB, isSizeB, Bool.not_eq_true', Bool.not_eq_false', bne_iff_ne, ne_eq, bne_eq_false_iff_eq, beq_iff_eq, beq_eq_false_iff_ne, decide_eq_true_eq, decide_eq_false_iff_not, gt_iff_lt, ge_iff_le] at h10
    refine At.region ?_
    refine tM rfl rfl ?_
    refine At.val (Val.neg rfl) rfl rfl rfl ?_
    rw [wrap_i64 (by omega) (by omega)]
    refine tA rfl rfl ?_
    refine tE ?_
    refine At.drop 4 ?_
    simp only [ec0, ecS]
    exact At.meets (0 - z) (by omega) (Sub.cons rfl (Sub.cons rfl (Sub.cons rfl (Sub.cons rfl (Sub.cons rfl Sub.nil))))) (List.Perm.refl _)
   ·skip
    try simp only [hasB, isSizeB, Bool.not_eq_true', Bool.not_eq_false', bne_iff_ne, ne_eq, bne_eq_false_iff_eq, beq_iff_eq, beq_eq_false_iff_ne, decide_eq_true_eq, decide_eq_false_iff_not, gt_iff_lt, ge_iff_le] at h10
    refine At.skipC ?_
    refine At.thenN ?_
    refine At.drop 4 ?_
    simp only [ec0, ecS]
    exact At.meets z (by omega) (Sub.cons rfl (Sub.cons rfl (Sub.cons rfl (Sub.cons rfl (Sub.cons rfl Sub.nil))))) (List.Perm.refl _)
  ·skip
   intro s hs
   obtain ⟨d, rfl⟩ : ∃ d : Nat, s = (d : Int) := ⟨s.toNat, by omega⟩
   refine At.seq ?_
   refine tR ?_
   refine tA rfl rfl ?_
   refine tE ?_
   refine At.block ?_
   skip
   refine At.loop (σ := Nat × List UInt8) (fun s => s.1 ≤ b.length ∧ s.1 + d ≤ 1024 ∧ s.2.length = (wbytes vs1).length ∧ (b = [] → s.2 = wbytes vs1)) (fun s => [(1, vb), (2, .int .i64 (d : Int)), (7, .pointer (some ⟨b2, 0, none⟩)), (8, (.slice A3 ((L).length) c4)), (13, v8), (14, .int .i64 (s.1 : Int))]) (fun s => [rowR v8 5 1 ((s.2).length) ((s.2).map bv), Dev p5 y7 (σ1), rowR (.slice A3 ((L).length) c4) 51 2 ((L).length) (prS (L)), blk b2 28 ([.int .i64 P, .int .i64 I', .int .i64 C', .int .i64 (4 + I' / 8)])]) (fun s => b.length - s.1) (0, wbytes vs1) ⟨Nat.zero_le _, by dsimp only; omega, rfl, fun _ => rfl⟩ (Sub.cons rfl (Sub.cons rfl (Sub.cons rfl (Sub.cons rfl (Sub.cons rfl (Sub.cons rfl Sub.nil)))))) (List.Perm.refl _) ?_
   intro s hs
   obtain ⟨k, Y⟩ := s
   dsimp only at hs ⊢
   obtain ⟨hk, hkd, hYl, hYb⟩ := hs
   rw [wbytes_length] at hYl
   refine At.seq ?_
   refine tR ?_
   refine tM rfl rfl ?_
   refine tM rfl rfl ?_
   refine At.val (Val.lenRd hvb Tryd.underlying38 rfl) rfl rfl rfl ?_
   refine At.val (Val.bin rfl rfl rfl) rfl rfl rfl ?_
   refine tM rfl rfl ?_
   refine At.split (t := 65) rfl (fun h11 => ?_) (fun h11 => ?_)
   ·skip
    try simp only [hasB, isSizeB, Bool.not_eq_true', Bool.not_eq_false', bne_iff_ne, ne_eq, bne_eq_false_iff_eq, beq_iff_eq, beq_eq_false_iff_ne, decide_eq_true_eq, decide_eq_false_iff_not, gt_iff_lt, ge_iff_le] at h11
    refine At.yes rfl rfl ?_
    refine tM rfl rfl ?_
    refine At.yes rfl rfl ?_
    refine tM rfl rfl ?_
    refine At.yes rfl rfl ?_
    first | refine At.val (Val.addI rfl rfl (by omega) (by omega)) rfl rfl rfl ?_ | refine At.val (Val.bin rfl rfl rfl) rfl rfl rfl ?_
    refine At.yes rfl rfl ?_
    refine At.val (Val.bin rfl rfl rfl) rfl rfl rfl ?_
    refine At.val (Val.pickT rfl rfl) rfl rfl rfl ?_
    refine tE ?_
    refine At.cond rfl (fun h12 => ?_) (fun h12 => ?_)
    ·skip
     try simp only [hasB, isSizeB, Bool.not_eq_true', Bool.not_eq_false', bne_iff_ne, ne_eq, bne_eq_false_iff_eq, beq_iff_eq, beq_eq_false_iff_ne, decide_eq_true_eq, decide_eq_false_iff_not, gt_iff_lt, ge_iff_le] at h12
     refine At.skipC ?_
     refine At.thenN ?_
     refine At.seq ?_
     refine At.block ?_
     refine At.region ?_
     refine tM rfl rfl ?_
     refine tM rfl rfl ?_
     first | refine At.val (Val.addI rfl rfl (by omega) (by omega)) rfl rfl rfl ?_ | refine At.val (Val.bin rfl rfl rfl) rfl rfl rfl ?_
     refine tM rfl rfl ?_
     first | refine At.val (Val.addI rfl rfl (by omega) (by omega)) rfl rfl rfl ?_ | refine At.val (Val.bin rfl rfl rfl) rfl rfl rfl ?_
     refine tM rfl rfl ?_
     refine tM rfl rfl ?_
     refine At.idxB hvb Tryd.underlying38 Tryd.sizeOf5 rfl rfl (by omega) (by omega) rfl rfl (fun b13 o14 q15 hq16 hl17 hc18 => ?_)
     refine At.val (Val.loadOld Tryd.isAgg5 rfl hc18 (fun h => h)) rfl rfl rfl ?_
     refine At.val (Val.indexRow (i := 0) (1024 + d + k) (by omega) Tryd.underlying38 Tryd.sizeOf5 rfl rfl rfl (by omega) (by omega)) rfl rfl rfl ?_
     refine At.storeRowB (i := 0) Tryd.sizeOf5 rfl rfl rfl (by omega) ?_
     simp only [sc0, scS]
     refine At.nil ?_
     refine At.blkN ?_
     refine At.thenN ?_
     refine At.region ?_
     refine tM rfl rfl ?_
     first | refine At.val (Val.addI rfl rfl (by omega) (by omega)) rfl rfl rfl ?_ | refine At.val (Val.bin rfl rfl rfl) rfl rfl rfl ?_
     refine tA rfl rfl ?_
     refine tE ?_
     exact At.again (k + 1, Y.set (1024 + d + k) _) ⟨(show k + 1 ≤ _ by omega), (by dsimp only; omega), (by dsimp only; rw [List.length_set, wbytes_length]; exact hYl), fun e => by subst e; simp only [List.length_nil] at *; omega⟩ (by dsimp only; omega) (Sub.cons rfl (Sub.cons rfl (Sub.cons rfl (Sub.cons rfl (Sub.cons rfl (Sub.cons (congrArg (fun z => some (Value.int IntKind.i64 z)) (by dsimp only; omega)) Sub.nil)))))) (List.Perm.refl _)
    ·skip
     try simp only [hasB, isSizeB, Bool.not_eq_true', Bool.not_eq_false', bne_iff_ne, ne_eq, bne_eq_false_iff_eq, beq_iff_eq, beq_eq_false_iff_ne, decide_eq_true_eq, decide_eq_false_iff_not, gt_iff_lt, ge_iff_le] at h12
     refine At.exitC ?_
     refine At.thenX ?_
     refine At.thenX ?_
     refine At.blkX ?_
     refine At.thenN ?_
     refine tR ?_
     refine tM rfl rfl ?_
     refine At.val (Val.loadAll (i := 3) Tryd.isAgg28 Tryd.sizeOf28 rfl rfl rfl) rfl rfl rfl ?_
     refine tM rfl rfl ?_
     refine At.val (Val.build (fun a ha => by simp only [List.map_toArray, List.map_cons, List.map_nil, ha.eval (x := (.tmp 85)) rfl, ha.eval (x := (.tmp 86)) rfl] <;> rfl) (bld_45_0_2 _ _ _ _ _ _ _ )) rfl rfl rfl ?_
     obtain ⟨e17, he17⟩ : ∃ e, e = restE Y P I' C' (4 + I' / 8) L := ⟨_, rfl⟩
     obtain ⟨R17, hR17⟩ : ∃ R, R = restL Y P I' C' (4 + I' / 8) L := ⟨_, rfl⟩
     refine At.callNT (g := (fun v => .tuple #[v, .int .i64 e17])) (fun w hw => (by have h0 := restore_n _ _ Y P I' C' (4 + I' / 8) L w (ht.mod hw.mod) (row_rd (hw.row (i := 0) rfl) (by decide)) (row_rd (hw.row (i := 2) rfl) (by decide)) (by omega) (by first | omega | (have h9 := growS_le L; omega)); rw [← he17, ← hR17] at h0; exact h0)) Tryd.call14 rfl rfl (fun v19 => ?_)
     refine tM rfl rfl ?_
     refine At.val (Val.extract rfl rfl) rfl rfl rfl ?_
     refine At.val (Val.extract rfl rfl) rfl rfl rfl ?_
     refine tA rfl rfl ?_
     refine tA rfl rfl ?_
     refine tE ?_
     refine At.seq ?_
     apply At.any (t := 11)
     · rfl
     refine KAt.pin (fun w hw => hw) ?_
     refine KAt.take 0 (Val.move rfl) rfl rfl rfl rfl (fun w hw => hw) (by decide +kernel) ?_
     refine KAt.take 1 (Val.loadAll (i := 4) Tryd.isAgg28 Tryd.sizeOf28 rfl rfl rfl) rfl rfl rfl rfl (fun w hw => hw) (by decide +kernel) ?_
     refine KAt.take 2 (Val.move rfl) rfl rfl rfl rfl (fun w hw => hw) (by decide +kernel) ?_
     refine KAt.only 3 rfl (by decide +kernel) ?_
     refine At.callN (fun w hw => other_n _ L w (row_rd (hw.row (i := 3) rfl) (by decide)) hso) Tryd.call15 rfl rfl (fun v20 => ?_)
     refine At.rowIs (i := 0) rfl (fun A21 c22 hv => ?_)
     subst hv
     refine At.nil ?_
     refine KAt.go (fun w hw => hw.drop (List.Sublist.cons _ (List.Sublist.cons_cons _ (List.Sublist.cons_cons _ (List.Sublist.cons_cons _ (List.Sublist.cons_cons _ (List.Sublist.cons_cons _ (List.Sublist.refl _)))))))) ?_
     refine KAt.take 4 (Val.build (fun a ha => by simp only [List.map_toArray, List.map_cons, List.map_nil, ha.eval (x := (.tmp 93)) rfl, ha.eval (x := (.tmp 95)) rfl] <;> rfl) (bld_45_0_2 _ _ _ _ _ _ _ )) rfl rfl rfl rfl (fun w hw => hw.drop (List.Sublist.cons _ (List.Sublist.cons_cons _ (List.Sublist.cons_cons _ (List.Sublist.cons_cons _ (List.Sublist.cons_cons _ (List.Sublist.cons_cons _ (List.Sublist.refl _)))))))) (by decide +kernel) ?_
     refine KAt.only 5 rfl (by decide +kernel) ?_
     obtain ⟨e18, he18⟩ : ∃ e, e = restE Y P I' C' (4 + I' / 8) (growS L) := ⟨_, rfl⟩
     obtain ⟨R18, hR18⟩ : ∃ R, R = restL Y P I' C' (4 + I' / 8) (growS L) := ⟨_, rfl⟩
     refine At.callNT (g := (fun v => .tuple #[v, .int .i64 e18])) (fun w hw => (by have h0 := restore_n _ _ Y P I' C' (4 + I' / 8) (growS L) w (ht.mod hw.mod) (row_rd (hw.row (i := 2) rfl) (by decide)) (row_rd (hw.row (i := 0) rfl) (by decide)) (by omega) (by first | omega | (have h9 := growS_le L; omega)); rw [← he18, ← hR18] at h0; exact h0)) Tryd.call14 rfl rfl (fun v23 => ?_)
     refine At.nil ?_
     refine KAt.go (fun w hw => hw.drop (List.Sublist.cons _ (List.Sublist.cons _ (List.Sublist.cons_cons _ (List.Sublist.cons_cons _ (List.Sublist.cons_cons _ (List.Sublist.cons_cons _ (List.Sublist.cons_cons _ (List.Sublist.refl _))))))))) ?_
     refine KAt.take 6 (Val.move rfl) rfl rfl rfl rfl (fun w hw => hw.drop (List.Sublist.cons _ (List.Sublist.cons _ (List.Sublist.cons_cons _ (List.Sublist.cons_cons _ (List.Sublist.cons_cons _ (List.Sublist.cons_cons _ (List.Sublist.cons_cons _ (List.Sublist.refl _))))))))) (by decide +kernel) ?_
     refine KAt.take 7 (Val.extract rfl rfl) rfl rfl rfl rfl (fun w hw => hw.drop (List.Sublist.cons _ (List.Sublist.cons _ (List.Sublist.cons_cons _ (List.Sublist.cons_cons _ (List.Sublist.cons_cons _ (List.Sublist.cons_cons _ (List.Sublist.cons_cons _ (List.Sublist.refl _))))))))) (by decide +kernel) ?_
     refine KAt.take 8 (Val.extract rfl rfl) rfl rfl rfl rfl (fun w hw => hw.drop (List.Sublist.cons _ (List.Sublist.cons _ (List.Sublist.cons_cons _ (List.Sublist.cons_cons _ (List.Sublist.cons_cons _ (List.Sublist.cons_cons _ (List.Sublist.cons_cons _ (List.Sublist.refl _))))))))) (by decide +kernel) ?_
     refine KAt.take 9 (Val.assign rfl) rfl rfl rfl rfl (fun w hw => hw.drop (List.Sublist.cons _ (List.Sublist.cons _ (List.Sublist.cons_cons _ (List.Sublist.cons_cons _ (List.Sublist.cons_cons _ (List.Sublist.cons_cons _ (List.Sublist.cons_cons _ (List.Sublist.refl _))))))))) (by decide +kernel) ?_
     refine KAt.take 10 (Val.assign rfl) rfl rfl rfl rfl (fun w hw => hw.drop (List.Sublist.cons _ (List.Sublist.cons _ (List.Sublist.cons_cons _ (List.Sublist.cons_cons _ (List.Sublist.cons_cons _ (List.Sublist.cons_cons _ (List.Sublist.cons_cons _ (List.Sublist.refl _))))))))) (by decide +kernel) ?_
     refine KAt.done (by decide +kernel) ?_
     have hA1 : e17 = 0 → R17 = L := fun h => by rw [hR17]; exact restL_yes (he17.symm.trans h)
     have hA2 : e18 = 0 → R18 = growS L := fun h => by rw [hR18]; exact restL_yes (he18.symm.trans h)
     have hC : ¬ (e17 = 0 ∧ e18 = 0) := fun ⟨h1, h2⟩ => growS_ne L ((restE_oL (he18.symm.trans h2)).symm.trans (restE_oL (he17.symm.trans h1)))
     have hB : b = [] → e17 = 0 := fun h => by rw [he17, hYb h]; exact (hR1 L).trans (if_pos rfl)
     refine At.thenN ?_
     refine At.seq ?_
     refine tR ?_
     refine tM rfl rfl ?_
     refine At.val (Val.bin rfl rfl rfl) rfl rfl rfl ?_
     refine tM rfl rfl ?_
     refine At.split (t := 102) rfl (fun h24 => ?_) (fun h24 => ?_)
     ·skip
      try simp only [hasB, isSizeB, Bool.not_eq_true', Bool.not_eq_false', bne_iff_ne, ne_eq, bne_eq_false_iff_eq, beq_iff_eq, beq_eq_false_iff_ne, decide_eq_true_eq, decide_eq_false_iff_not, gt_iff_lt, ge_iff_le] at h24
      have he0 : e17 = 0 := h24
      refine At.yes rfl rfl ?_
      refine tM rfl rfl ?_
      refine At.yes rfl rfl ?_
      refine tM rfl rfl ?_
      refine At.yes rfl rfl ?_
      refine At.callP (fun w hw => (by have h0 := sameSpL_p _ _ R17 L w (row_rd (hw.row (i := 2) rfl) (by decide)) (row_rd (hw.row (i := 5) rfl) (by decide)) (by rw [(hA1 he0)]; first | omega | (have h9 := growS_le L; omega)) (by first | omega | (have h9 := growS_le L; omega)); rwa [decide_eq_true (hA1 he0)] at h0)) Tryd.call16 rfl rfl ?_
      refine At.yes rfl rfl ?_
      refine At.val (Val.not rfl) rfl rfl rfl ?_
      refine At.val (Val.pickT rfl rfl) rfl rfl rfl ?_
      refine tM rfl rfl ?_
      refine At.yes rfl rfl ?_
      refine tM rfl rfl ?_
      refine At.yes rfl rfl ?_
      refine At.val (Val.bin rfl rfl rfl) rfl rfl rfl ?_
      rw [show (e17 != 0) = false from by rw [he0]; rfl]
      refine At.yes rfl rfl ?_
      refine tM rfl rfl ?_
      refine At.no rfl rfl rfl rfl ?_
      refine At.no rfl rfl rfl rfl ?_
      refine At.no rfl rfl rfl rfl ?_
      refine At.yes rfl rfl ?_
      refine At.val (Val.pickF rfl rfl) rfl rfl rfl ?_
      refine At.val (Val.pickF rfl rfl) rfl rfl rfl ?_
      refine tM rfl rfl ?_
      refine At.yes rfl rfl ?_
      refine tM rfl rfl ?_
      refine At.yes rfl rfl ?_
      refine At.val (Val.bin rfl rfl rfl) rfl rfl rfl ?_
      refine At.yes rfl rfl ?_
      refine tM rfl rfl ?_
      refine At.split (t := 120) rfl (fun h25 => ?_) (fun h25 => ?_)
      ·skip
       try simp only [hasB, isSizeB, Bool.not_eq_true', Bool.not_eq_false', bne_iff_ne, ne_eq, bne_eq_false_iff_eq, beq_iff_eq, beq_eq_false_iff_ne, decide_eq_true_eq, decide_eq_false_iff_not, gt_iff_lt, ge_iff_le] at h25
       have h2 : e18 = 0 := h25
       have hne : ¬ e17 = 0 := fun e => hC ⟨e, h2⟩
       refine At.yes rfl rfl ?_
       refine tM rfl rfl ?_
       refine At.yes rfl rfl ?_
       refine At.val (Val.bin rfl rfl rfl) rfl rfl rfl ?_
       rw [show (e17 == 0) = false from by rw [beq_eq_false_iff_ne]; exact hne]
       refine At.yes rfl rfl ?_
       refine tM rfl rfl ?_
       refine At.yes rfl rfl ?_
       refine tM rfl rfl ?_
       refine At.yes rfl rfl ?_
       refine tM rfl rfl ?_
       refine At.yes rfl rfl ?_
       refine At.callN (fun w hw => other_n _ L w (row_rd (hw.row (i := 5) rfl) (by decide)) hso) Tryd.call15 rfl rfl (fun v26 => ?_)
       refine At.rowIs (i := 0) rfl (fun A27 c28 hv => ?_)
       subst hv
       refine At.yes rfl rfl ?_
       refine At.callP (fun w hw => (by have h0 := sameSpL_p _ _ R18 (growS L) w (row_rd (hw.row (i := 1) rfl) (by decide)) (row_rd (hw.row (i := 0) rfl) (by decide)) (by rw [(hA2 h2)]; first | omega | (have h9 := growS_le L; omega)) (by first | omega | (have h9 := growS_le L; omega)); rwa [decide_eq_true (hA2 h2)] at h0)) Tryd.call16 rfl rfl ?_
       refine At.yes rfl rfl ?_
       refine At.val (Val.not rfl) rfl rfl rfl ?_
       refine At.yes rfl rfl ?_
       refine At.val (Val.pickF rfl rfl) rfl rfl rfl ?_
       refine At.yes rfl rfl ?_
       refine At.val (Val.pickT rfl rfl) rfl rfl rfl ?_
       refine At.val (Val.pickF rfl rfl) rfl rfl rfl ?_
       refine tE ?_
       refine At.condF rfl ?_
       refine At.skipC ?_
       refine At.thenN ?_
       refine At.seq ?_
       refine At.rowIs (i := 4) rfl (fun A29 c30 hv => ?_)
       subst hv
       apply At.any (t := 10)
       · rfl
       refine KAt.pin (fun w hw => hw) ?_
       refine KAt.take 0 (Val.move rfl) rfl rfl rfl rfl (fun w hw => hw) (by decide +kernel) ?_
       refine KAt.take 1 (Val.cutRow (i := 4) (l := 1) (h := Y.length) rfl (by decide) Tryd.underlying38 Tryd.sizeOf5 rfl (by exact ⟨_, _, rfl, by omega, by omega⟩) (by exact rfl) (by omega) (by omega)) rfl rfl rfl rfl (fun w hw => hw) (by decide +kernel) ?_
       refine KAt.take 2 (Val.loadAll (i := 7) Tryd.isAgg28 Tryd.sizeOf28 rfl rfl rfl) rfl rfl rfl rfl (fun w hw => hw) (by decide +kernel) ?_
       refine KAt.take 3 (Val.move rfl) rfl rfl rfl rfl (fun w hw => hw) (by decide +kernel) ?_
       refine KAt.take 4 (Val.build (fun a ha => by simp only [List.map_toArray, List.map_cons, List.map_nil, ha.eval (x := (.tmp 135)) rfl, ha.eval (x := (.tmp 136)) rfl] <;> rfl) (bld_45_0_2 _ _ _ _ _ _ _ )) rfl rfl rfl rfl (fun w hw => hw) (by decide +kernel) ?_
       refine KAt.only 5 rfl (by decide +kernel) ?_
       refine At.callNT (g := (fun v => .tuple #[v, .int .i64 30])) (fun w hw => (by have h0 := restore_n _ _ ((Y.drop 1).take (Y.length - 1)) P I' C' (4 + I' / 8) L w (ht.mod hw.mod) (RdB.cut (l := 1) (h := Y.length) (row_rd (hw.row (i := 4) rfl) (by decide)) (by omega) (by omega)) (row_rd (hw.row (i := 6) rfl) (by decide)) (by first | omega | (simp only [List.length_take, List.length_drop]; omega)) (by omega); rw [restL_no (restE_30 (.inr (by simp only [List.length_take, List.length_drop]; omega))) (by decide), restE_30 (.inr (by simp only [List.length_take, List.length_drop]; omega))] at h0; exact h0)) Tryd.call14 rfl rfl (fun v31 => ?_)
       refine At.nil ?_
       refine KAt.go (fun w hw => hw.drop (List.Sublist.cons _ (List.Sublist.cons_cons _ (List.Sublist.cons_cons _ (List.Sublist.cons_cons _ (List.Sublist.cons_cons _ (List.Sublist.cons_cons _ (List.Sublist.cons_cons _ (List.Sublist.cons_cons _ (List.Sublist.cons_cons _ (List.Sublist.refl _))))))))))) ?_
       refine KAt.take 6 (Val.move rfl) rfl rfl rfl rfl (fun w hw => hw.drop (List.Sublist.cons _ (List.Sublist.cons_cons _ (List.Sublist.cons_cons _ (List.Sublist.cons_cons _ (List.Sublist.cons_cons _ (List.Sublist.cons_cons _ (List.Sublist.cons_cons _ (List.Sublist.cons_cons _ (List.Sublist.cons_cons _ (List.Sublist.refl _))))))))))) (by decide +kernel) ?_
       refine KAt.take 7 (Val.extract rfl rfl) rfl rfl rfl rfl (fun w hw => hw.drop (List.Sublist.cons _ (List.Sublist.cons_cons _ (List.Sublist.cons_cons _ (List.Sublist.cons_cons _ (List.Sublist.cons_cons _ (List.Sublist.cons_cons _ (List.Sublist.cons_cons _ (List.Sublist.cons_cons _ (List.Sublist.cons_cons _ (List.Sublist.refl _))))))))))) (by decide +kernel) ?_
       refine KAt.take 8 (Val.extract rfl rfl) rfl rfl rfl rfl (fun w hw => hw.drop (List.Sublist.cons _ (List.Sublist.cons_cons _ (List.Sublist.cons_cons _ (List.Sublist.cons_cons _ (List.Sublist.cons_cons _ (List.Sublist.cons_cons _ (List.Sublist.cons_cons _ (List.Sublist.cons_cons _ (List.Sublist.cons_cons _ (List.Sublist.refl _))))))))))) (by decide +kernel) ?_
       refine KAt.take 9 (Val.assign rfl) rfl rfl rfl rfl (fun w hw => hw.drop (List.Sublist.cons _ (List.Sublist.cons_cons _ (List.Sublist.cons_cons _ (List.Sublist.cons_cons _ (List.Sublist.cons_cons _ (List.Sublist.cons_cons _ (List.Sublist.cons_cons _ (List.Sublist.cons_cons _ (List.Sublist.cons_cons _ (List.Sublist.refl _))))))))))) (by decide +kernel) ?_
       refine KAt.done (by decide +kernel) ?_
       refine At.thenN ?_
       refine tR ?_
       refine tM rfl rfl ?_
       refine At.val (Val.field 0 rfl fo_28_0 rfl) rfl rfl rfl ?_
       refine At.val (Val.load (i := 8) Tryd.isAgg3 rfl rfl rfl) rfl rfl rfl ?_
       refine At.val (Val.field 1 rfl fo_28_1 rfl) rfl rfl rfl ?_
       refine At.val (Val.load (i := 8) Tryd.isAgg3 rfl rfl rfl) rfl rfl rfl ?_
       refine At.val (Val.field 2 rfl fo_28_2 rfl) rfl rfl rfl ?_
       refine At.val (Val.load (i := 8) Tryd.isAgg3 rfl rfl rfl) rfl rfl rfl ?_
       refine At.val (Val.field 3 rfl fo_28_3 rfl) rfl rfl rfl ?_
       refine At.val (Val.load (i := 8) Tryd.isAgg3 rfl rfl rfl) rfl rfl rfl ?_
       first | refine At.val (Val.addI rfl rfl (by omega) (by omega)) rfl rfl rfl ?_ | refine At.val (Val.bin rfl rfl rfl) rfl rfl rfl ?_
       refine At.val (Val.build (fun a ha => by simp only [List.map_toArray, List.map_cons, List.map_nil, ha.eval (x := (.tmp 144)) rfl, ha.eval (x := (.tmp 146)) rfl, ha.eval (x := (.tmp 148)) rfl, ha.eval (x := (.tmp 151)) rfl] <;> rfl) (bld_28_0_1_2_3 _ _ _ _ )) rfl rfl rfl ?_
       refine tM rfl rfl ?_
       refine At.val (Val.build (fun a ha => by simp only [List.map_toArray, List.map_cons, List.map_nil, ha.eval (x := (.tmp 152)) rfl, ha.eval (x := (.tmp 153)) rfl] <;> rfl) (bld_45_0_2 _ _ _ _ _ _ _ )) rfl rfl rfl ?_
       refine At.callNT (g := (fun v => .tuple #[v, .int .i64 30])) (fun w hw => (by have h0 := restore_n _ _ Y P I' C' (4 + I' / 8 + 1) L w (ht.mod hw.mod) (row_rd (hw.row (i := 5) rfl) (by decide)) (row_rd (hw.row (i := 7) rfl) (by decide)) (by first | omega | (simp only [List.length_take, List.length_drop]; omega)) (by omega); rw [restL_no (restE_30 (.inl (by omega))) (by decide), restE_30 (.inl (by omega))] at h0; exact h0)) Tryd.call14 rfl rfl (fun v32 => ?_)
       refine tM rfl rfl ?_
       refine At.val (Val.extract rfl rfl) rfl rfl rfl ?_
       refine At.val (Val.extract rfl rfl) rfl rfl rfl ?_
       refine tA rfl rfl ?_
       refine tE ?_
       refine At.seq ?_
       refine tR ?_
       refine tA rfl rfl ?_
       refine tE ?_
       refine At.block ?_
       skip
       refine At.drop 5 ?_
       simp only [ec0, ecS]
       refine At.drop 4 ?_
       simp only [ec0, ecS]
       refine At.drop 3 ?_
       simp only [ec0, ecS]
       refine At.drop 2 ?_
       simp only [ec0, ecS]
       refine At.drop 1 ?_
       simp only [ec0, ecS]
       refine At.drop 0 ?_
       simp only [ec0, ecS]
       refine At.loop (σ := Nat × List UInt8) (fun s => (128 ≤ s.1 ∧ s.1 ≤ 136) ∧ s.2.length = Y.length ∧ ∀ j, 128 ≤ j → j < s.1 → s.2[j]? = some 0) (fun s => [(7, .pointer (some ⟨b2, 0, none⟩)), (8, (.slice A3 ((L).length) c4)), (13, (.slice A29 ((Y).length) c30)), (16, .int .i64 30), (18, .int .i64 30), (19, .int .i64 (s.1 : Int))]) (fun s => [rowR (.slice A29 ((Y).length) c30) 5 1 ((s.2).length) ((s.2).map bv), Dev p5 y7 (σ1), rowR (.slice A3 ((L).length) c4) 51 2 ((L).length) (prS (L)), blk b2 28 ([.int .i64 P, .int .i64 I', .int .i64 C', .int .i64 (4 + I' / 8)])]) (fun s => 136 - s.1) (128, Y) ⟨by dsimp only; omega, rfl, fun j h1 h2 => absurd h2 (by dsimp only; omega)⟩ (Sub.cons rfl (Sub.cons rfl (Sub.cons rfl (Sub.cons rfl (Sub.cons rfl (Sub.cons rfl Sub.nil)))))) (List.Perm.refl _) ?_
       intro s hs
       obtain ⟨k, Z⟩ := s
       dsimp only at hs ⊢
       obtain ⟨⟨hk1, hk2⟩, hZl, hZ⟩ := hs
       refine At.seq ?_
       refine tR ?_
       refine tM rfl rfl ?_
       refine At.val (Val.bin rfl rfl rfl) rfl rfl rfl ?_
       refine tE ?_
       refine At.cond rfl (fun h33 => ?_) (fun h33 => ?_)
       ·skip
        try simp only [hasB, isSizeB, Bool.not_eq_true', Bool.not_eq_false', bne_iff_ne, ne_eq, bne_eq_false_iff_eq, beq_iff_eq, beq_eq_false_iff_ne, decide_eq_true_eq, decide_eq_false_iff_not, gt_iff_lt, ge_iff_le] at h33
        refine At.skipC ?_
        refine At.thenN ?_
        refine At.seq ?_
        refine At.block ?_
        refine At.region ?_
        refine tM rfl rfl ?_
        refine tM rfl rfl ?_
        refine At.val (Val.indexRow (i := 0) k (by omega) Tryd.underlying38 Tryd.sizeOf5 rfl rfl rfl (by omega) (by omega)) rfl rfl rfl ?_
        refine At.storeRowB (i := 0) (c := 0) Tryd.sizeOf5 rfl rfl rfl (by omega) ?_
        simp only [sc0, scS]
        refine At.nil ?_
        refine At.blkN ?_
        refine At.thenN ?_
        refine At.region ?_
        refine tM rfl rfl ?_
        first | refine At.val (Val.addI rfl rfl (by omega) (by omega)) rfl rfl rfl ?_ | refine At.val (Val.bin rfl rfl rfl) rfl rfl rfl ?_
        refine tA rfl rfl ?_
        refine tE ?_
        exact At.again (k + 1, Z.set k 0) ⟨(by dsimp only; omega), (by dsimp only; rw [List.length_set]; exact hZl), set_zeros hk1 (by omega) hZ⟩ (by dsimp only; omega) (Sub.cons rfl (Sub.cons rfl (Sub.cons rfl (Sub.cons rfl (Sub.cons rfl (Sub.cons (congrArg (fun z => some (Value.int IntKind.i64 z)) (by dsimp only; omega)) Sub.nil)))))) (List.Perm.refl _)
       ·skip
        try simp only [hasB, isSizeB, Bool.not_eq_true', Bool.not_eq_false', bne_iff_ne, ne_eq, bne_eq_false_iff_eq, beq_iff_eq, beq_eq_false_iff_ne, decide_eq_true_eq, decide_eq_false_iff_not, gt_iff_lt, ge_iff_le] at h33
        refine At.exitC ?_
        refine At.thenX ?_
        refine At.thenX ?_
        refine At.blkX ?_
        refine At.thenN ?_
        refine tR ?_
        refine tM rfl rfl ?_
        refine At.val (Val.loadAll (i := 3) Tryd.isAgg28 Tryd.sizeOf28 rfl rfl rfl) rfl rfl rfl ?_
        refine tM rfl rfl ?_
        refine At.val (Val.build (fun a ha => by simp only [List.map_toArray, List.map_cons, List.map_nil, ha.eval (x := (.tmp 167)) rfl, ha.eval (x := (.tmp 168)) rfl] <;> rfl) (bld_45_0_2 _ _ _ _ _ _ _ )) rfl rfl rfl ?_
        refine At.callNT (g := (fun v => .tuple #[v, .int .i64 130])) (fun w hw => (by have h0 := restore_n _ _ Z P I' C' (4 + I' / 8) L w (ht.mod hw.mod) (row_rd (hw.row (i := 0) rfl) (by decide)) (row_rd (hw.row (i := 2) rfl) (by decide)) (by first | omega | (simp only [List.length_take, List.length_drop]; omega)) (by omega); rw [restL_no (restE_130 hg (by omega) (cleanT_zeros (fun j h1 h2 => hZ j h1 (by omega)))) (by decide), restE_130 hg (by omega) (cleanT_zeros (fun j h1 h2 => hZ j h1 (by omega)))] at h0; exact h0)) Tryd.call14 rfl rfl (fun v34 => ?_)
        refine tM rfl rfl ?_
        refine At.val (Val.extract rfl rfl) rfl rfl rfl ?_
        refine At.val (Val.extract rfl rfl) rfl rfl rfl ?_
        refine tA rfl rfl ?_
        refine tA rfl rfl ?_
        refine tE ?_
        refine tR ?_
        refine tM rfl rfl ?_
        refine At.val (Val.bin rfl rfl rfl) rfl rfl rfl ?_
        refine tM rfl rfl ?_
        refine At.yes rfl rfl ?_
        refine tM rfl rfl ?_
        refine At.yes rfl rfl ?_
        refine At.val (Val.bin rfl rfl rfl) rfl rfl rfl ?_
        refine At.val (Val.pickT rfl rfl) rfl rfl rfl ?_
        refine tM rfl rfl ?_
        refine At.yes rfl rfl ?_
        refine tM rfl rfl ?_
        refine At.yes rfl rfl ?_
        refine At.val (Val.bin rfl rfl rfl) rfl rfl rfl ?_
        refine At.val (Val.pickT rfl rfl) rfl rfl rfl ?_
        refine tA rfl rfl ?_
        refine tE ?_
        refine At.retC ?_
        refine At.ret1 (.inl rfl) rfl rfl rfl (fun w hw => ?_)
        exact ⟨rfl, hw.mod⟩
      ·skip
       try simp only [hasB, isSizeB, Bool.not_eq_true', Bool.not_eq_false', bne_iff_ne, ne_eq, bne_eq_false_iff_eq, beq_iff_eq, beq_eq_false_iff_ne, decide_eq_true_eq, decide_eq_false_iff_not, gt_iff_lt, ge_iff_le] at h25
       refine At.no rfl rfl rfl rfl ?_
       refine At.no rfl rfl rfl rfl ?_
       refine At.no rfl rfl rfl rfl ?_
       refine At.noU rfl rfl rfl ?_
       refine At.noU rfl rfl rfl ?_
       refine At.noU rfl rfl rfl ?_
       refine At.noU rfl rfl rfl ?_
       refine At.noU rfl rfl rfl ?_
       refine At.no rfl rfl rfl rfl ?_
       refine At.yes rfl rfl ?_
       refine At.val (Val.pickF rfl rfl) rfl rfl rfl ?_
       refine At.val (Val.pickF rfl rfl) rfl rfl rfl ?_
       refine tE ?_
       refine At.condF rfl ?_
       refine At.skipC ?_
       refine At.thenN ?_
       refine At.seq ?_
       refine At.rowIs (i := 3) rfl (fun A35 c36 hv => ?_)
       subst hv
       apply At.any (t := 10)
       · rfl
       refine KAt.pin (fun w hw => hw) ?_
       refine KAt.take 0 (Val.move rfl) rfl rfl rfl rfl (fun w hw => hw) (by decide +kernel) ?_
       refine KAt.take 1 (Val.cutRow (i := 3) (l := 1) (h := Y.length) rfl (by decide) Tryd.underlying38 Tryd.sizeOf5 rfl (by exact ⟨_, _, rfl, by omega, by omega⟩) (by exact rfl) (by omega) (by omega)) rfl rfl rfl rfl (fun w hw => hw) (by decide +kernel) ?_
       refine KAt.take 2 (Val.loadAll (i := 6) Tryd.isAgg28 Tryd.sizeOf28 rfl rfl rfl) rfl rfl rfl rfl (fun w hw => hw) (by decide +kernel) ?_
       refine KAt.take 3 (Val.move rfl) rfl rfl rfl rfl (fun w hw => hw) (by decide +kernel) ?_
       refine KAt.take 4 (Val.build (fun a ha => by simp only [List.map_toArray, List.map_cons, List.map_nil, ha.eval (x := (.tmp 135)) rfl, ha.eval (x := (.tmp 136)) rfl] <;> rfl) (bld_45_0_2 _ _ _ _ _ _ _ )) rfl rfl rfl rfl (fun w hw => hw) (by decide +kernel) ?_
       refine KAt.only 5 rfl (by decide +kernel) ?_
       refine At.callNT (g := (fun v => .tuple #[v, .int .i64 30])) (fun w hw => (by have h0 := restore_n _ _ ((Y.drop 1).take (Y.length - 1)) P I' C' (4 + I' / 8) L w (ht.mod hw.mod) (RdB.cut (l := 1) (h := Y.length) (row_rd (hw.row (i := 3) rfl) (by decide)) (by omega) (by omega)) (row_rd (hw.row (i := 5) rfl) (by decide)) (by first | omega | (simp only [List.length_take, List.length_drop]; omega)) (by omega); rw [restL_no (restE_30 (.inr (by simp only [List.length_take, List.length_drop]; omega))) (by decide), restE_30 (.inr (by simp only [List.length_take, List.length_drop]; omega))] at h0; exact h0)) Tryd.call14 rfl rfl (fun v37 => ?_)
       refine At.nil ?_
       refine KAt.go (fun w hw => hw.drop (List.Sublist.cons _ (List.Sublist.cons_cons _ (List.Sublist.cons_cons _ (List.Sublist.cons_cons _ (List.Sublist.cons_cons _ (List.Sublist.cons_cons _ (List.Sublist.cons_cons _ (List.Sublist.cons_cons _ (List.Sublist.refl _)))))))))) ?_
       refine KAt.take 6 (Val.move rfl) rfl rfl rfl rfl (fun w hw => hw.drop (List.Sublist.cons _ (List.Sublist.cons_cons _ (List.Sublist.cons_cons _ (List.Sublist.cons_cons _ (List.Sublist.cons_cons _ (List.Sublist.cons_cons _ (List.Sublist.cons_cons _ (List.Sublist.cons_cons _ (List.Sublist.refl _)))))))))) (by decide +kernel) ?_
       refine KAt.take 7 (Val.extract rfl rfl) rfl rfl rfl rfl (fun w hw => hw.drop (List.Sublist.cons _ (List.Sublist.cons_cons _ (List.Sublist.cons_cons _ (List.Sublist.cons_cons _ (List.Sublist.cons_cons _ (List.Sublist.cons_cons _ (List.Sublist.cons_cons _ (List.Sublist.cons_cons _ (List.Sublist.refl _)))))))))) (by decide +kernel) ?_
       refine KAt.take 8 (Val.extract rfl rfl) rfl rfl rfl rfl (fun w hw => hw.drop (List.Sublist.cons _ (List.Sublist.cons_cons _ (List.Sublist.cons_cons _ (List.Sublist.cons_cons _ (List.Sublist.cons_cons _ (List.Sublist.cons_cons _ (List.Sublist.cons_cons _ (List.Sublist.cons_cons _ (List.Sublist.refl _)))))))))) (by decide +kernel) ?_
       refine KAt.take 9 (Val.assign rfl) rfl rfl rfl rfl (fun w hw => hw.drop (List.Sublist.cons _ (List.Sublist.cons_cons _ (List.Sublist.cons_cons _ (List.Sublist.cons_cons _ (List.Sublist.cons_cons _ (List.Sublist.cons_cons _ (List.Sublist.cons_cons _ (List.Sublist.cons_cons _ (List.Sublist.refl _)))))))))) (by decide +kernel) ?_
       refine KAt.done (by decide +kernel) ?_
       refine At.thenN ?_
       refine tR ?_
       refine tM rfl rfl ?_
       refine At.val (Val.field 0 rfl fo_28_0 rfl) rfl rfl rfl ?_
       refine At.val (Val.load (i := 7) Tryd.isAgg3 rfl rfl rfl) rfl rfl rfl ?_
       refine At.val (Val.field 1 rfl fo_28_1 rfl) rfl rfl rfl ?_
       refine At.val (Val.load (i := 7) Tryd.isAgg3 rfl rfl rfl) rfl rfl rfl ?_
       refine At.val (Val.field 2 rfl fo_28_2 rfl) rfl rfl rfl ?_
       refine At.val (Val.load (i := 7) Tryd.isAgg3 rfl rfl rfl) rfl rfl rfl ?_
       refine At.val (Val.field 3 rfl fo_28_3 rfl) rfl rfl rfl ?_
       refine At.val (Val.load (i := 7) Tryd.isAgg3 rfl rfl rfl) rfl rfl rfl ?_
       first | refine At.val (Val.addI rfl rfl (by omega) (by omega)) rfl rfl rfl ?_ | refine At.val (Val.bin rfl rfl rfl) rfl rfl rfl ?_
       refine At.val (Val.build (fun a ha => by simp only [List.map_toArray, List.map_cons, List.map_nil, ha.eval (x := (.tmp 144)) rfl, ha.eval (x := (.tmp 146)) rfl, ha.eval (x := (.tmp 148)) rfl, ha.eval (x := (.tmp 151)) rfl] <;> rfl) (bld_28_0_1_2_3 _ _ _ _ )) rfl rfl rfl ?_
       refine tM rfl rfl ?_
       refine At.val (Val.build (fun a ha => by simp only [List.map_toArray, List.map_cons, List.map_nil, ha.eval (x := (.tmp 152)) rfl, ha.eval (x := (.tmp 153)) rfl] <;> rfl) (bld_45_0_2 _ _ _ _ _ _ _ )) rfl rfl rfl ?_
       refine At.callNT (g := (fun v => .tuple #[v, .int .i64 30])) (fun w hw => (by have h0 := restore_n _ _ Y P I' C' (4 + I' / 8 + 1) L w (ht.mod hw.mod) (row_rd (hw.row (i := 4) rfl) (by decide)) (row_rd (hw.row (i := 6) rfl) (by decide)) (by first | omega | (simp only [List.length_take, List.length_drop]; omega)) (by omega); rw [restL_no (restE_30 (.inl (by omega))) (by decide), restE_30 (.inl (by omega))] at h0; exact h0)) Tryd.call14 rfl rfl (fun v38 => ?_)
       refine tM rfl rfl ?_
       refine At.val (Val.extract rfl rfl) rfl rfl rfl ?_
       refine At.val (Val.extract rfl rfl) rfl rfl rfl ?_
       refine tA rfl rfl ?_
       refine tE ?_
       refine At.seq ?_
       refine tR ?_
       refine tA rfl rfl ?_
       refine tE ?_
       refine At.block ?_
       skip
       refine At.drop 4 ?_
       simp only [ec0, ecS]
       refine At.drop 3 ?_
       simp only [ec0, ecS]
       refine At.drop 2 ?_
       simp only [ec0, ecS]
       refine At.drop 1 ?_
       simp only [ec0, ecS]
       refine At.drop 0 ?_
       simp only [ec0, ecS]
       refine At.loop (σ := Nat × List UInt8) (fun s => (128 ≤ s.1 ∧ s.1 ≤ 136) ∧ s.2.length = Y.length ∧ ∀ j, 128 ≤ j → j < s.1 → s.2[j]? = some 0) (fun s => [(7, .pointer (some ⟨b2, 0, none⟩)), (8, (.slice A3 ((L).length) c4)), (13, (.slice A35 ((Y).length) c36)), (16, .int .i64 30), (18, .int .i64 30), (19, .int .i64 (s.1 : Int))]) (fun s => [rowR (.slice A35 ((Y).length) c36) 5 1 ((s.2).length) ((s.2).map bv), Dev p5 y7 (σ1), rowR (.slice A3 ((L).length) c4) 51 2 ((L).length) (prS (L)), blk b2 28 ([.int .i64 P, .int .i64 I', .int .i64 C', .int .i64 (4 + I' / 8)])]) (fun s => 136 - s.1) (128, Y) ⟨by dsimp only; omega, rfl, fun j h1 h2 => absurd h2 (by dsimp only; omega)⟩ (Sub.cons rfl (Sub.cons rfl (Sub.cons rfl (Sub.cons rfl (Sub.cons rfl (Sub.cons rfl Sub.nil)))))) (List.Perm.refl _) ?_
       intro s hs
       obtain ⟨k, Z⟩ := s
       dsimp only at hs ⊢
       obtain ⟨⟨hk1, hk2⟩, hZl, hZ⟩ := hs
       refine At.seq ?_
       refine tR ?_
       refine tM rfl rfl ?_
       refine At.val (Val.bin rfl rfl rfl) rfl rfl rfl ?_
       refine tE ?_
       refine At.cond rfl (fun h39 => ?_) (fun h39 => ?_)
       ·skip
        try simp only [hasB, isSizeB, Bool.not_eq_true', Bool.not_eq_false', bne_iff_ne, ne_eq, bne_eq_false_iff_eq, beq_iff_eq, beq_eq_false_iff_ne, decide_eq_true_eq, decide_eq_false_iff_not, gt_iff_lt, ge_iff_le] at h39
        refine At.skipC ?_
        refine At.thenN ?_
        refine At.seq ?_
        refine At.block ?_
        refine At.region ?_
        refine tM rfl rfl ?_
        refine tM rfl rfl ?_
        refine At.val (Val.indexRow (i := 0) k (by omega) Tryd.underlying38 Tryd.sizeOf5 rfl rfl rfl (by omega) (by omega)) rfl rfl rfl ?_
        refine At.storeRowB (i := 0) (c := 0) Tryd.sizeOf5 rfl rfl rfl (by omega) ?_
        simp only [sc0, scS]
        refine At.nil ?_
        refine At.blkN ?_
        refine At.thenN ?_
        refine At.region ?_
        refine tM rfl rfl ?_
        first | refine At.val (Val.addI rfl rfl (by omega) (by omega)) rfl rfl rfl ?_ | refine At.val (Val.bin rfl rfl rfl) rfl rfl rfl ?_
        refine tA rfl rfl ?_
        refine tE ?_
        exact At.again (k + 1, Z.set k 0) ⟨(by dsimp only; omega), (by dsimp only; rw [List.length_set]; exact hZl), set_zeros hk1 (by omega) hZ⟩ (by dsimp only; omega) (Sub.cons rfl (Sub.cons rfl (Sub.cons rfl (Sub.cons rfl (Sub.cons rfl (Sub.cons (congrArg (fun z => some (Value.int IntKind.i64 z)) (by dsimp only; omega)) Sub.nil)))))) (List.Perm.refl _)
       ·skip
        try simp only [hasB, isSizeB, Bool.not_eq_true', Bool.not_eq_false', bne_iff_ne, ne_eq, bne_eq_false_iff_eq, beq_iff_eq, beq_eq_false_iff_ne, decide_eq_true_eq, decide_eq_false_iff_not, gt_iff_lt, ge_iff_le] at h39
        refine At.exitC ?_
        refine At.thenX ?_
        refine At.thenX ?_
        refine At.blkX ?_
        refine At.thenN ?_
        refine tR ?_
        refine tM rfl rfl ?_
        refine At.val (Val.loadAll (i := 3) Tryd.isAgg28 Tryd.sizeOf28 rfl rfl rfl) rfl rfl rfl ?_
        refine tM rfl rfl ?_
        refine At.val (Val.build (fun a ha => by simp only [List.map_toArray, List.map_cons, List.map_nil, ha.eval (x := (.tmp 167)) rfl, ha.eval (x := (.tmp 168)) rfl] <;> rfl) (bld_45_0_2 _ _ _ _ _ _ _ )) rfl rfl rfl ?_
        refine At.callNT (g := (fun v => .tuple #[v, .int .i64 130])) (fun w hw => (by have h0 := restore_n _ _ Z P I' C' (4 + I' / 8) L w (ht.mod hw.mod) (row_rd (hw.row (i := 0) rfl) (by decide)) (row_rd (hw.row (i := 2) rfl) (by decide)) (by first | omega | (simp only [List.length_take, List.length_drop]; omega)) (by omega); rw [restL_no (restE_130 hg (by omega) (cleanT_zeros (fun j h1 h2 => hZ j h1 (by omega)))) (by decide), restE_130 hg (by omega) (cleanT_zeros (fun j h1 h2 => hZ j h1 (by omega)))] at h0; exact h0)) Tryd.call14 rfl rfl (fun v40 => ?_)
        refine tM rfl rfl ?_
        refine At.val (Val.extract rfl rfl) rfl rfl rfl ?_
        refine At.val (Val.extract rfl rfl) rfl rfl rfl ?_
        refine tA rfl rfl ?_
        refine tA rfl rfl ?_
        refine tE ?_
        refine tR ?_
        refine tM rfl rfl ?_
        refine At.val (Val.bin rfl rfl rfl) rfl rfl rfl ?_
        refine tM rfl rfl ?_
        refine At.yes rfl rfl ?_
        refine tM rfl rfl ?_
        refine At.yes rfl rfl ?_
        refine At.val (Val.bin rfl rfl rfl) rfl rfl rfl ?_
        refine At.val (Val.pickT rfl rfl) rfl rfl rfl ?_
        refine tM rfl rfl ?_
        refine At.yes rfl rfl ?_
        refine tM rfl rfl ?_
        refine At.yes rfl rfl ?_
        refine At.val (Val.bin rfl rfl rfl) rfl rfl rfl ?_
        refine At.val (Val.pickT rfl rfl) rfl rfl rfl ?_
        refine tA rfl rfl ?_
        refine tE ?_
        refine At.retC ?_
        refine At.ret1 (.inl rfl) rfl rfl rfl (fun w hw => ?_)
        exact ⟨rfl, hw.mod⟩
     ·skip
      try simp only [hasB, isSizeB, Bool.not_eq_true', Bool.not_eq_false', bne_iff_ne, ne_eq, bne_eq_false_iff_eq, beq_iff_eq, beq_eq_false_iff_ne, decide_eq_true_eq, decide_eq_false_iff_not, gt_iff_lt, ge_iff_le] at h24
      have he0 : ¬ e17 = 0 := h24
      refine At.no rfl rfl rfl rfl ?_
      refine At.no rfl rfl rfl rfl ?_
      refine At.no rfl rfl rfl rfl ?_
      refine At.no rfl rfl rfl rfl ?_
      refine At.val (Val.pickF rfl rfl) rfl rfl rfl ?_
      refine tM rfl rfl ?_
      refine At.yes rfl rfl ?_
      refine tM rfl rfl ?_
      refine At.yes rfl rfl ?_
      refine At.val (Val.bin rfl rfl rfl) rfl rfl rfl ?_
      rw [show (e17 != 0) = true from bne_iff_ne.2 he0]
      refine At.yes rfl rfl ?_
      refine tM rfl rfl ?_
      refine At.yes rfl rfl ?_
      refine tM rfl rfl ?_
      refine At.yes rfl rfl ?_
      refine At.val (Val.lenRd hvb Tryd.underlying38 rfl) rfl rfl rfl ?_
      refine At.yes rfl rfl ?_
      refine At.val (Val.bin rfl rfl rfl) rfl rfl rfl ?_
      rw [show (((b.length : Nat) : Int) == 0) = false from by rw [beq_eq_false_iff_ne]; intro e; exact he0 (hB (List.eq_nil_of_length_eq_zero (by omega)))]
      refine At.yes rfl rfl ?_
      refine At.val (Val.pickT rfl rfl) rfl rfl rfl ?_
      refine At.val (Val.pickF rfl rfl) rfl rfl rfl ?_
      refine tM rfl rfl ?_
      refine At.yes rfl rfl ?_
      refine tM rfl rfl ?_
      refine At.yes rfl rfl ?_
      refine At.val (Val.bin rfl rfl rfl) rfl rfl rfl ?_
      refine At.yes rfl rfl ?_
      refine tM rfl rfl ?_
      refine At.split (t := 120) rfl (fun h41 => ?_) (fun h41 => ?_)
      ·skip
       try simp only [hasB, isSizeB, Bool.not_eq_true', Bool.not_eq_false', bne_iff_ne, ne_eq, bne_eq_false_iff_eq, beq_iff_eq, beq_eq_false_iff_ne, decide_eq_true_eq, decide_eq_false_iff_not, gt_iff_lt, ge_iff_le] at h41
       have h2 : e18 = 0 := h41
       have hne : ¬ e17 = 0 := fun e => hC ⟨e, h2⟩
       refine At.yes rfl rfl ?_
       refine tM rfl rfl ?_
       refine At.yes rfl rfl ?_
       refine At.val (Val.bin rfl rfl rfl) rfl rfl rfl ?_
       rw [show (e17 == 0) = false from by rw [beq_eq_false_iff_ne]; exact hne]
       refine At.yes rfl rfl ?_
       refine tM rfl rfl ?_
       refine At.yes rfl rfl ?_
       refine tM rfl rfl ?_
       refine At.yes rfl rfl ?_
       refine tM rfl rfl ?_
       refine At.yes rfl rfl ?_
       refine At.callN (fun w hw => other_n _ L w (row_rd (hw.row (i := 5) rfl) (by decide)) hso) Tryd.call15 rfl rfl (fun v42 => ?_)
       refine At.rowIs (i := 0) rfl (fun A43 c44 hv => ?_)
       subst hv
       refine At.yes rfl rfl ?_
       refine At.callP (fun w hw => (by have h0 := sameSpL_p _ _ R18 (growS L) w (row_rd (hw.row (i := 1) rfl) (by decide)) (row_rd (hw.row (i := 0) rfl) (by decide)) (by rw [(hA2 h2)]; first | omega | (have h9 := growS_le L; omega)) (by first | omega | (have h9 := growS_le L; omega)); rwa [decide_eq_true (hA2 h2)] at h0)) Tryd.call16 rfl rfl ?_
       refine At.yes rfl rfl ?_
       refine At.val (Val.not rfl) rfl rfl rfl ?_
       refine At.yes rfl rfl ?_
       refine At.val (Val.pickF rfl rfl) rfl rfl rfl ?_
       refine At.yes rfl rfl ?_
       refine At.val (Val.pickT rfl rfl) rfl rfl rfl ?_
       refine At.val (Val.pickF rfl rfl) rfl rfl rfl ?_
       refine tE ?_
       refine At.condF rfl ?_
       refine At.skipC ?_
       refine At.thenN ?_
       refine At.seq ?_
       refine At.rowIs (i := 4) rfl (fun A45 c46 hv => ?_)
       subst hv
       apply At.any (t := 10)
       · rfl
       refine KAt.pin (fun w hw => hw) ?_
       refine KAt.take 0 (Val.move rfl) rfl rfl rfl rfl (fun w hw => hw) (by decide +kernel) ?_
       refine KAt.take 1 (Val.cutRow (i := 4) (l := 1) (h := Y.length) rfl (by decide) Tryd.underlying38 Tryd.sizeOf5 rfl (by exact ⟨_, _, rfl, by omega, by omega⟩) (by exact rfl) (by omega) (by omega)) rfl rfl rfl rfl (fun w hw => hw) (by decide +kernel) ?_
       refine KAt.take 2 (Val.loadAll (i := 7) Tryd.isAgg28 Tryd.sizeOf28 rfl rfl rfl) rfl rfl rfl rfl (fun w hw => hw) (by decide +kernel) ?_
       refine KAt.take 3 (Val.move rfl) rfl rfl rfl rfl (fun w hw => hw) (by decide +kernel) ?_
       refine KAt.take 4 (Val.build (fun a ha => by simp only [List.map_toArray, List.map_cons, List.map_nil, ha.eval (x := (.tmp 135)) rfl, ha.eval (x := (.tmp 136)) rfl] <;> rfl) (bld_45_0_2 _ _ _ _ _ _ _ )) rfl rfl rfl rfl (fun w hw => hw) (by decide +kernel) ?_
       refine KAt.only 5 rfl (by decide +kernel) ?_
       refine At.callNT (g := (fun v => .tuple #[v, .int .i64 30])) (fun w hw => (by have h0 := restore_n _ _ ((Y.drop 1).take (Y.length - 1)) P I' C' (4 + I' / 8) L w (ht.mod hw.mod) (RdB.cut (l := 1) (h := Y.length) (row_rd (hw.row (i := 4) rfl) (by decide)) (by omega) (by omega)) (row_rd (hw.row (i := 6) rfl) (by decide)) (by first | omega | (simp only [List.length_take, List.length_drop]; omega)) (by omega); rw [restL_no (restE_30 (.inr (by simp only [List.length_take, List.length_drop]; omega))) (by decide), restE_30 (.inr (by simp only [List.length_take, List.length_drop]; omega))] at h0; exact h0)) Tryd.call14 rfl rfl (fun v47 => ?_)
       refine At.nil ?_
       refine KAt.go (fun w hw => hw.drop (List.Sublist.cons _ (List.Sublist.cons_cons _ (List.Sublist.cons_cons _ (List.Sublist.cons_cons _ (List.Sublist.cons_cons _ (List.Sublist.cons_cons _ (List.Sublist.cons_cons _ (List.Sublist.cons_cons _ (List.Sublist.cons_cons _ (List.Sublist.refl _))))))))))) ?_
       refine KAt.take 6 (Val.move rfl) rfl rfl rfl rfl (fun w hw => hw.drop (List.Sublist.cons _ (List.Sublist.cons_cons _ (List.Sublist.cons_cons _ (List.Sublist.cons_cons _ (List.Sublist.cons_cons _ (List.Sublist.cons_cons _ (List.Sublist.cons_cons _ (List.Sublist.cons_cons _ (List.Sublist.cons_cons _ (List.Sublist.refl _))))))))))) (by decide +kernel) ?_
       refine KAt.take 7 (Val.extract rfl rfl) rfl rfl rfl rfl (fun w hw => hw.drop (List.Sublist.cons _ (List.Sublist.cons_cons _ (List.Sublist.cons_cons _ (List.Sublist.cons_cons _ (List.Sublist.cons_cons _ (List.Sublist.cons_cons _ (List.Sublist.cons_cons _ (List.Sublist.cons_cons _ (List.Sublist.cons_cons _ (List.Sublist.refl _))))))))))) (by decide +kernel) ?_
       refine KAt.take 8 (Val.extract rfl rfl) rfl rfl rfl rfl (fun w hw => hw.drop (List.Sublist.cons _ (List.Sublist.cons_cons _ (List.Sublist.cons_cons _ (List.Sublist.cons_cons _ (List.Sublist.cons_cons _ (List.Sublist.cons_cons _ (List.Sublist.cons_cons _ (List.Sublist.cons_cons _ (List.Sublist.cons_cons _ (List.Sublist.refl _))))))))))) (by decide +kernel) ?_
       refine KAt.take 9 (Val.assign rfl) rfl rfl rfl rfl (fun w hw => hw.drop (List.Sublist.cons _ (List.Sublist.cons_cons _ (List.Sublist.cons_cons _ (List.Sublist.cons_cons _ (List.Sublist.cons_cons _ (List.Sublist.cons_cons _ (List.Sublist.cons_cons _ (List.Sublist.cons_cons _ (List.Sublist.cons_cons _ (List.Sublist.refl _))))))))))) (by decide +kernel) ?_
       refine KAt.done (by decide +kernel) ?_
       refine At.thenN ?_
       refine tR ?_
       refine tM rfl rfl ?_
       refine At.val (Val.field 0 rfl fo_28_0 rfl) rfl rfl rfl ?_
       refine At.val (Val.load (i := 8) Tryd.isAgg3 rfl rfl rfl) rfl rfl rfl ?_
       refine At.val (Val.field 1 rfl fo_28_1 rfl) rfl rfl rfl ?_
       refine At.val (Val.load (i := 8) Tryd.isAgg3 rfl rfl rfl) rfl rfl rfl ?_
       refine At.val (Val.field 2 rfl fo_28_2 rfl) rfl rfl rfl ?_
       refine At.val (Val.load (i := 8) Tryd.isAgg3 rfl rfl rfl) rfl rfl rfl ?_
       refine At.val (Val.field 3 rfl fo_28_3 rfl) rfl rfl rfl ?_
       refine At.val (Val.load (i := 8) Tryd.isAgg3 rfl rfl rfl) rfl rfl rfl ?_
       first | refine At.val (Val.addI rfl rfl (by omega) (by omega)) rfl rfl rfl ?_ | refine At.val (Val.bin rfl rfl rfl) rfl rfl rfl ?_
       refine At.val (Val.build (fun a ha => by simp only [List.map_toArray, List.map_cons, List.map_nil, ha.eval (x := (.tmp 144)) rfl, ha.eval (x := (.tmp 146)) rfl, ha.eval (x := (.tmp 148)) rfl, ha.eval (x := (.tmp 151)) rfl] <;> rfl) (bld_28_0_1_2_3 _ _ _ _ )) rfl rfl rfl ?_
       refine tM rfl rfl ?_
       refine At.val (Val.build (fun a ha => by simp only [List.map_toArray, List.map_cons, List.map_nil, ha.eval (x := (.tmp 152)) rfl, ha.eval (x := (.tmp 153)) rfl] <;> rfl) (bld_45_0_2 _ _ _ _ _ _ _ )) rfl rfl rfl ?_
       refine At.callNT (g := (fun v => .tuple #[v, .int .i64 30])) (fun w hw => (by have h0 := restore_n _ _ Y P I' C' (4 + I' / 8 + 1) L w (ht.mod hw.mod) (row_rd (hw.row (i := 5) rfl) (by decide)) (row_rd (hw.row (i := 7) rfl) (by decide)) (by first | omega | (simp only [List.length_take, List.length_drop]; omega)) (by omega); rw [restL_no (restE_30 (.inl (by omega))) (by decide), restE_30 (.inl (by omega))] at h0; exact h0)) Tryd.call14 rfl rfl (fun v48 => ?_)
       refine tM rfl rfl ?_
       refine At.val (Val.extract rfl rfl) rfl rfl rfl ?_
       refine At.val (Val.extract rfl rfl) rfl rfl rfl ?_
       refine tA rfl rfl ?_
       refine tE ?_
       refine At.seq ?_
       refine tR ?_
       refine tA rfl rfl ?_
       refine tE ?_
       refine At.block ?_
       skip
       refine At.drop 5 ?_
       simp only [ec0, ecS]
       refine At.drop 4 ?_
       simp only [ec0, ecS]
       refine At.drop 3 ?_
       simp only [ec0, ecS]
       refine At.drop 2 ?_
       simp only [ec0, ecS]
       refine At.drop 1 ?_
       simp only [ec0, ecS]
       refine At.drop 0 ?_
       simp only [ec0, ecS]
       refine At.loop (σ := Nat × List UInt8) (fun s => (128 ≤ s.1 ∧ s.1 ≤ 136) ∧ s.2.length = Y.length ∧ ∀ j, 128 ≤ j → j < s.1 → s.2[j]? = some 0) (fun s => [(7, .pointer (some ⟨b2, 0, none⟩)), (8, (.slice A3 ((L).length) c4)), (13, (.slice A45 ((Y).length) c46)), (16, .int .i64 30), (18, .int .i64 30), (19, .int .i64 (s.1 : Int))]) (fun s => [rowR (.slice A45 ((Y).length) c46) 5 1 ((s.2).length) ((s.2).map bv), Dev p5 y7 (σ1), rowR (.slice A3 ((L).length) c4) 51 2 ((L).length) (prS (L)), blk b2 28 ([.int .i64 P, .int .i64 I', .int .i64 C', .int .i64 (4 + I' / 8)])]) (fun s => 136 - s.1) (128, Y) ⟨by dsimp only; omega, rfl, fun j h1 h2 => absurd h2 (by dsimp only; omega)⟩ (Sub.cons rfl (Sub.cons rfl (Sub.cons rfl (Sub.cons rfl (Sub.cons rfl (Sub.cons rfl Sub.nil)))))) (List.Perm.refl _) ?_
       intro s hs
       obtain ⟨k, Z⟩ := s
       dsimp only at hs ⊢
       obtain ⟨⟨hk1, hk2⟩, hZl, hZ⟩ := hs
       refine At.seq ?_
       refine tR ?_
       refine tM rfl rfl ?_
       refine At.val (Val.bin rfl rfl rfl) rfl rfl rfl ?_
       refine tE ?_
       refine At.cond rfl (fun h49 => ?_) (fun h49 => ?_)
       ·skip
        try simp only [hasB, isSizeB, Bool.not_eq_true', Bool.not_eq_false', bne_iff_ne, ne_eq, bne_eq_false_iff_eq, beq_iff_eq, beq_eq_false_iff_ne, decide_eq_true_eq, decide_eq_false_iff_not, gt_iff_lt, ge_iff_le] at h49
        refine At.skipC ?_
        refine At.thenN ?_
        refine At.seq ?_
        refine At.block ?_
        refine At.region ?_
        refine tM rfl rfl ?_
        refine tM rfl rfl ?_
        refine At.val (Val.indexRow (i := 0) k (by omega) Tryd.underlying38 Tryd.sizeOf5 rfl rfl rfl (by omega) (by omega)) rfl rfl rfl ?_
        refine At.storeRowB (i := 0) (c := 0) Tryd.sizeOf5 rfl rfl rfl (by omega) ?_
        simp only [sc0, scS]
        refine At.nil ?_
        refine At.blkN ?_
        refine At.thenN ?_
        refine At.region ?_
        refine tM rfl rfl ?_
        first | refine At.val (Val.addI rfl rfl (by omega) (by omega)) rfl rfl rfl ?_ | refine At.val (Val.bin rfl rfl rfl) rfl rfl rfl ?_
        refine tA rfl rfl ?_
        refine tE ?_
        exact At.again (k + 1, Z.set k 0) ⟨(by dsimp only; omega), (by dsimp only; rw [List.length_set]; exact hZl), set_zeros hk1 (by omega) hZ⟩ (by dsimp only; omega) (Sub.cons rfl (Sub.cons rfl (Sub.cons rfl (Sub.cons rfl (Sub.cons rfl (Sub.cons (congrArg (fun z => some (Value.int IntKind.i64 z)) (by dsimp only; omega)) Sub.nil)))))) (List.Perm.refl _)
       ·skip
        try simp only [hasB, isSizeB, Bool.not_eq_true', Bool.not_eq_false', bne_iff_ne, ne_eq, bne_eq_false_iff_eq, beq_iff_eq, beq_eq_false_iff_ne, decide_eq_true_eq, decide_eq_false_iff_not, gt_iff_lt, ge_iff_le] at h49
        refine At.exitC ?_
        refine At.thenX ?_
        refine At.thenX ?_
        refine At.blkX ?_
        refine At.thenN ?_
        refine tR ?_
        refine tM rfl rfl ?_
        refine At.val (Val.loadAll (i := 3) Tryd.isAgg28 Tryd.sizeOf28 rfl rfl rfl) rfl rfl rfl ?_
        refine tM rfl rfl ?_
        refine At.val (Val.build (fun a ha => by simp only [List.map_toArray, List.map_cons, List.map_nil, ha.eval (x := (.tmp 167)) rfl, ha.eval (x := (.tmp 168)) rfl] <;> rfl) (bld_45_0_2 _ _ _ _ _ _ _ )) rfl rfl rfl ?_
        refine At.callNT (g := (fun v => .tuple #[v, .int .i64 130])) (fun w hw => (by have h0 := restore_n _ _ Z P I' C' (4 + I' / 8) L w (ht.mod hw.mod) (row_rd (hw.row (i := 0) rfl) (by decide)) (row_rd (hw.row (i := 2) rfl) (by decide)) (by first | omega | (simp only [List.length_take, List.length_drop]; omega)) (by omega); rw [restL_no (restE_130 hg (by omega) (cleanT_zeros (fun j h1 h2 => hZ j h1 (by omega)))) (by decide), restE_130 hg (by omega) (cleanT_zeros (fun j h1 h2 => hZ j h1 (by omega)))] at h0; exact h0)) Tryd.call14 rfl rfl (fun v50 => ?_)
        refine tM rfl rfl ?_
        refine At.val (Val.extract rfl rfl) rfl rfl rfl ?_
        refine At.val (Val.extract rfl rfl) rfl rfl rfl ?_
        refine tA rfl rfl ?_
        refine tA rfl rfl ?_
        refine tE ?_
        refine tR ?_
        refine tM rfl rfl ?_
        refine At.val (Val.bin rfl rfl rfl) rfl rfl rfl ?_
        refine tM rfl rfl ?_
        refine At.yes rfl rfl ?_
        refine tM rfl rfl ?_
        refine At.yes rfl rfl ?_
        refine At.val (Val.bin rfl rfl rfl) rfl rfl rfl ?_
        refine At.val (Val.pickT rfl rfl) rfl rfl rfl ?_
        refine tM rfl rfl ?_
        refine At.yes rfl rfl ?_
        refine tM rfl rfl ?_
        refine At.yes rfl rfl ?_
        refine At.val (Val.bin rfl rfl rfl) rfl rfl rfl ?_
        refine At.val (Val.pickT rfl rfl) rfl rfl rfl ?_
        refine tA rfl rfl ?_
        refine tE ?_
        refine At.retC ?_
        refine At.ret1 (.inl rfl) rfl rfl rfl (fun w hw => ?_)
        exact ⟨rfl, hw.mod⟩
      ·skip
       try simp only [hasB, isSizeB, Bool.not_eq_true', Bool.not_eq_false', bne_iff_ne, ne_eq, bne_eq_false_iff_eq, beq_iff_eq, beq_eq_false_iff_ne, decide_eq_true_eq, decide_eq_false_iff_not, gt_iff_lt, ge_iff_le] at h41
       refine At.no rfl rfl rfl rfl ?_
       refine At.no rfl rfl rfl rfl ?_
       refine At.no rfl rfl rfl rfl ?_
       refine At.noU rfl rfl rfl ?_
       refine At.noU rfl rfl rfl ?_
       refine At.noU rfl rfl rfl ?_
       refine At.noU rfl rfl rfl ?_
       refine At.noU rfl rfl rfl ?_
       refine At.no rfl rfl rfl rfl ?_
       refine At.yes rfl rfl ?_
       refine At.val (Val.pickF rfl rfl) rfl rfl rfl ?_
       refine At.val (Val.pickF rfl rfl) rfl rfl rfl ?_
       refine tE ?_
       refine At.condF rfl ?_
       refine At.skipC ?_
       refine At.thenN ?_
       refine At.seq ?_
       refine At.rowIs (i := 3) rfl (fun A51 c52 hv => ?_)
       subst hv
       apply At.any (t := 10)
       · rfl
       refine KAt.pin (fun w hw => hw) ?_
       refine KAt.take 0 (Val.move rfl) rfl rfl rfl rfl (fun w hw => hw) (by decide +kernel) ?_
       refine KAt.take 1 (Val.cutRow (i := 3) (l := 1) (h := Y.length) rfl (by decide) Tryd.underlying38 Tryd.sizeOf5 rfl (by exact ⟨_, _, rfl, by omega, by omega⟩) (by exact rfl) (by omega) (by omega)) rfl rfl rfl rfl (fun w hw => hw) (by decide +kernel) ?_
       refine KAt.take 2 (Val.loadAll (i := 6) Tryd.isAgg28 Tryd.sizeOf28 rfl rfl rfl) rfl rfl rfl rfl (fun w hw => hw) (by decide +kernel) ?_
       refine KAt.take 3 (Val.move rfl) rfl rfl rfl rfl (fun w hw => hw) (by decide +kernel) ?_
       refine KAt.take 4 (Val.build (fun a ha => by simp only [List.map_toArray, List.map_cons, List.map_nil, ha.eval (x := (.tmp 135)) rfl, ha.eval (x := (.tmp 136)) rfl] <;> rfl) (bld_45_0_2 _ _ _ _ _ _ _ )) rfl rfl rfl rfl (fun w hw => hw) (by decide +kernel) ?_
       refine KAt.only 5 rfl (by decide +kernel) ?_
       refine At.callNT (g := (fun v => .tuple #[v, .int .i64 30])) (fun w hw => (by have h0 := restore_n _ _ ((Y.drop 1).take (Y.length - 1)) P I' C' (4 + I' / 8) L w (ht.mod hw.mod) (RdB.cut (l := 1) (h := Y.length) (row_rd (hw.row (i := 3) rfl) (by decide)) (by omega) (by omega)) (row_rd (hw.row (i := 5) rfl) (by decide)) (by first | omega | (simp only [List.length_take, List.length_drop]; omega)) (by omega); rw [restL_no (restE_30 (.inr (by simp only [List.length_take, List.length_drop]; omega))) (by decide), restE_30 (.inr (by simp only [List.length_take, List.length_drop]; omega))] at h0; exact h0)) Tryd.call14 rfl rfl (fun v53 => ?_)
       refine At.nil ?_
       refine KAt.go (fun w hw => hw.drop (List.Sublist.cons _ (List.Sublist.cons_cons _ (List.Sublist.cons_cons _ (List.Sublist.cons_cons _ (List.Sublist.cons_cons _ (List.Sublist.cons_cons _ (List.Sublist.cons_cons _ (List.Sublist.cons_cons _ (List.Sublist.refl _)))))))))) ?_
       refine KAt.take 6 (Val.move rfl) rfl rfl rfl rfl (fun w hw => hw.drop (List.Sublist.cons _ (List.Sublist.cons_cons _ (List.Sublist.cons_cons _ (List.Sublist.cons_cons _ (List.Sublist.cons_cons _ (List.Sublist.cons_cons _ (List.Sublist.cons_cons _ (List.Sublist.cons_cons _ (List.Sublist.refl _)))))))))) (by decide +kernel) ?_
       refine KAt.take 7 (Val.extract rfl rfl) rfl rfl rfl rfl (fun w hw => hw.drop (List.Sublist.cons _ (List.Sublist.cons_cons _ (List.Sublist.cons_cons _ (List.Sublist.cons_cons _ (List.Sublist.cons_cons _ (List.Sublist.cons_cons _ (List.Sublist.cons_cons _ (List.Sublist.cons_cons _ (List.Sublist.refl _)))))))))) (by decide +kernel) ?_
       refine KAt.take 8 (Val.extract rfl rfl) rfl rfl rfl rfl (fun w hw => hw.drop (List.Sublist.cons _ (List.Sublist.cons_cons _ (List.Sublist.cons_cons _ (List.Sublist.cons_cons _ (List.Sublist.cons_cons _ (List.Sublist.cons_cons _ (List.Sublist.cons_cons _ (List.Sublist.cons_cons _ (List.Sublist.refl _)))))))))) (by decide +kernel) ?_
       refine KAt.take 9 (Val.assign rfl) rfl rfl rfl rfl (fun w hw => hw.drop (List.Sublist.cons _ (List.Sublist.cons_cons _ (List.Sublist.cons_cons _ (List.Sublist.cons_cons _ (List.Sublist.cons_cons _ (List.Sublist.cons_cons _ (List.Sublist.cons_cons _ (List.Sublist.cons_cons _ (List.Sublist.refl _)))))))))) (by decide +kernel) ?_
       refine KAt.done (by decide +kernel) ?_
       refine At.thenN ?_
       refine tR ?_
       refine tM rfl rfl ?_
       refine At.val (Val.field 0 rfl fo_28_0 rfl) rfl rfl rfl ?_
       refine At.val (Val.load (i := 7) Tryd.isAgg3 rfl rfl rfl) rfl rfl rfl ?_
       refine At.val (Val.field 1 rfl fo_28_1 rfl) rfl rfl rfl ?_
       refine At.val (Val.load (i := 7) Tryd.isAgg3 rfl rfl rfl) rfl rfl rfl ?_
       refine At.val (Val.field 2 rfl fo_28_2 rfl) rfl rfl rfl ?_
       refine At.val (Val.load (i := 7) Tryd.isAgg3 rfl rfl rfl) rfl rfl rfl ?_
       refine At.val (Val.field 3 rfl fo_28_3 rfl) rfl rfl rfl ?_
       refine At.val (Val.load (i := 7) Tryd.isAgg3 rfl rfl rfl) rfl rfl rfl ?_
       first | refine At.val (Val.addI rfl rfl (by omega) (by omega)) rfl rfl rfl ?_ | refine At.val (Val.bin rfl rfl rfl) rfl rfl rfl ?_
       refine At.val (Val.build (fun a ha => by simp only [List.map_toArray, List.map_cons, List.map_nil, ha.eval (x := (.tmp 144)) rfl, ha.eval (x := (.tmp 146)) rfl, ha.eval (x := (.tmp 148)) rfl, ha.eval (x := (.tmp 151)) rfl] <;> rfl) (bld_28_0_1_2_3 _ _ _ _ )) rfl rfl rfl ?_
       refine tM rfl rfl ?_
       refine At.val (Val.build (fun a ha => by simp only [List.map_toArray, List.map_cons, List.map_nil, ha.eval (x := (.tmp 152)) rfl, ha.eval (x := (.tmp 153)) rfl] <;> rfl) (bld_45_0_2 _ _ _ _ _ _ _ )) rfl rfl rfl ?_
       refine At.callNT (g := (fun v => .tuple #[v, .int .i64 30])) (fun w hw => (by have h0 := restore_n _ _ Y P I' C' (4 + I' / 8 + 1) L w (ht.mod hw.mod) (row_rd (hw.row (i := 4) rfl) (by decide)) (row_rd (hw.row (i := 6) rfl) (by decide)) (by first | omega | (simp only [List.length_take, List.length_drop]; omega)) (by omega); rw [restL_no (restE_30 (.inl (by omega))) (by decide), restE_30 (.inl (by omega))] at h0; exact h0)) Tryd.call14 rfl rfl (fun v54 => ?_)
       refine tM rfl rfl ?_
       refine At.val (Val.extract rfl rfl) rfl rfl rfl ?_
       refine At.val (Val.extract rfl rfl) rfl rfl rfl ?_
       refine tA rfl rfl ?_
       refine tE ?_
       refine At.seq ?_
       refine tR ?_
       refine tA rfl rfl ?_
       refine tE ?_
       refine At.block ?_
       skip
       refine At.drop 4 ?_
       simp only [ec0, ecS]
       refine At.drop 3 ?_
       simp only [ec0, ecS]
       refine At.drop 2 ?_
       simp only [ec0, ecS]
       refine At.drop 1 ?_
       simp only [ec0, ecS]
       refine At.drop 0 ?_
       simp only [ec0, ecS]
       refine At.loop (σ := Nat × List UInt8) (fun s => (128 ≤ s.1 ∧ s.1 ≤ 136) ∧ s.2.length = Y.length ∧ ∀ j, 128 ≤ j → j < s.1 → s.2[j]? = some 0) (fun s => [(7, .pointer (some ⟨b2, 0, none⟩)), (8, (.slice A3 ((L).length) c4)), (13, (.slice A51 ((Y).length) c52)), (16, .int .i64 30), (18, .int .i64 30), (19, .int .i64 (s.1 : Int))]) (fun s => [rowR (.slice A51 ((Y).length) c52) 5 1 ((s.2).length) ((s.2).map bv), Dev p5 y7 (σ1), rowR (.slice A3 ((L).length) c4) 51 2 ((L).length) (prS (L)), blk b2 28 ([.int .i64 P, .int .i64 I', .int .i64 C', .int .i64 (4 + I' / 8)])]) (fun s => 136 - s.1) (128, Y) ⟨by dsimp only; omega, rfl, fun j h1 h2 => absurd h2 (by dsimp only; omega)⟩ (Sub.cons rfl (Sub.cons rfl (Sub.cons rfl (Sub.cons rfl (Sub.cons rfl (Sub.cons rfl Sub.nil)))))) (List.Perm.refl _) ?_
       intro s hs
       obtain ⟨k, Z⟩ := s
       dsimp only at hs ⊢
       obtain ⟨⟨hk1, hk2⟩, hZl, hZ⟩ := hs
       refine At.seq ?_
       refine tR ?_
       refine tM rfl rfl ?_
       refine At.val (Val.bin rfl rfl rfl) rfl rfl rfl ?_
       refine tE ?_
       refine At.cond rfl (fun h55 => ?_) (fun h55 => ?_)
       ·skip
        try simp only [hasB, isSizeB, Bool.not_eq_true', Bool.not_eq_false', bne_iff_ne, ne_eq, bne_eq_false_iff_eq, beq_iff_eq, beq_eq_false_iff_ne, decide_eq_true_eq, decide_eq_false_iff_not, gt_iff_lt, ge_iff_le] at h55
        refine At.skipC ?_
        refine At.thenN ?_
        refine At.seq ?_
        refine At.block ?_
        refine At.region ?_
        refine tM rfl rfl ?_
        refine tM rfl rfl ?_
        refine At.val (Val.indexRow (i := 0) k (by omega) Tryd.underlying38 Tryd.sizeOf5 rfl rfl rfl (by omega) (by omega)) rfl rfl rfl ?_
        refine At.storeRowB (i := 0) (c := 0) Tryd.sizeOf5 rfl rfl rfl (by omega) ?_
        simp only [sc0, scS]
        refine At.nil ?_
        refine At.blkN ?_
        refine At.thenN ?_
        refine At.region ?_
        refine tM rfl rfl ?_
        first | refine At.val (Val.addI rfl rfl (by omega) (by omega)) rfl rfl rfl ?_ | refine At.val (Val.bin rfl rfl rfl) rfl rfl rfl ?_
        refine tA rfl rfl ?_
        refine tE ?_
        exact At.again (k + 1, Z.set k 0) ⟨(by dsimp only; omega), (by dsimp only; rw [List.length_set]; exact hZl), set_zeros hk1 (by omega) hZ⟩ (by dsimp only; omega) (Sub.cons rfl (Sub.cons rfl (Sub.cons rfl (Sub.cons rfl (Sub.cons rfl (Sub.cons (congrArg (fun z => some (Value.int IntKind.i64 z)) (by dsimp only; omega)) Sub.nil)))))) (List.Perm.refl _)
       ·skip
        try simp only [hasB, isSizeB, Bool.not_eq_true', Bool.not_eq_false', bne_iff_ne, ne_eq, bne_eq_false_iff_eq, beq_iff_eq, beq_eq_false_iff_ne, decide_eq_true_eq, decide_eq_false_iff_not, gt_iff_lt, ge_iff_le] at h55
        refine At.exitC ?_
        refine At.thenX ?_
        refine At.thenX ?_
        refine At.blkX ?_
        refine At.thenN ?_
        refine tR ?_
        refine tM rfl rfl ?_
        refine At.val (Val.loadAll (i := 3) Tryd.isAgg28 Tryd.sizeOf28 rfl rfl rfl) rfl rfl rfl ?_
        refine tM rfl rfl ?_
        refine At.val (Val.build (fun a ha => by simp only [List.map_toArray, List.map_cons, List.map_nil, ha.eval (x := (.tmp 167)) rfl, ha.eval (x := (.tmp 168)) rfl] <;> rfl) (bld_45_0_2 _ _ _ _ _ _ _ )) rfl rfl rfl ?_
        refine At.callNT (g := (fun v => .tuple #[v, .int .i64 130])) (fun w hw => (by have h0 := restore_n _ _ Z P I' C' (4 + I' / 8) L w (ht.mod hw.mod) (row_rd (hw.row (i := 0) rfl) (by decide)) (row_rd (hw.row (i := 2) rfl) (by decide)) (by first | omega | (simp only [List.length_take, List.length_drop]; omega)) (by omega); rw [restL_no (restE_130 hg (by omega) (cleanT_zeros (fun j h1 h2 => hZ j h1 (by omega)))) (by decide), restE_130 hg (by omega) (cleanT_zeros (fun j h1 h2 => hZ j h1 (by omega)))] at h0; exact h0)) Tryd.call14 rfl rfl (fun v56 => ?_)
        refine tM rfl rfl ?_
        refine At.val (Val.extract rfl rfl) rfl rfl rfl ?_
        refine At.val (Val.extract rfl rfl) rfl rfl rfl ?_
        refine tA rfl rfl ?_
        refine tA rfl rfl ?_
        refine tE ?_
        refine tR ?_
        refine tM rfl rfl ?_
        refine At.val (Val.bin rfl rfl rfl) rfl rfl rfl ?_
        refine tM rfl rfl ?_
        refine At.yes rfl rfl ?_
        refine tM rfl rfl ?_
        refine At.yes rfl rfl ?_
        refine At.val (Val.bin rfl rfl rfl) rfl rfl rfl ?_
        refine At.val (Val.pickT rfl rfl) rfl rfl rfl ?_
        refine tM rfl rfl ?_
        refine At.yes rfl rfl ?_
        refine tM rfl rfl ?_
        refine At.yes rfl rfl ?_
        refine At.val (Val.bin rfl rfl rfl) rfl rfl rfl ?_
        refine At.val (Val.pickT rfl rfl) rfl rfl rfl ?_
        refine tA rfl rfl ?_
        refine tE ?_
        refine At.retC ?_
        refine At.ret1 (.inl rfl) rfl rfl rfl (fun w hw => ?_)
        exact ⟨rfl, hw.mod⟩
   ·skip
    try simp only [hasB, isSizeB, Bool.not_eq_true', Bool.not_eq_false', bne_iff_ne, ne_eq, bne_eq_false_iff_eq, beq_iff_eq, beq_eq_false_iff_ne, decide_eq_true_eq, decide_eq_false_iff_not, gt_iff_lt, ge_iff_le] at h11
    refine At.no rfl rfl rfl rfl ?_
    refine At.no rfl rfl rfl rfl ?_
    refine At.no rfl rfl rfl rfl ?_
    refine At.no rfl rfl rfl rfl ?_
    refine At.val (Val.pickF rfl rfl) rfl rfl rfl ?_
    refine tE ?_
    refine At.condF rfl ?_
    refine At.exitC ?_
    refine At.thenX ?_
    refine At.thenX ?_
    refine At.blkX ?_
    refine At.thenN ?_
    refine tR ?_
    refine tM rfl rfl ?_
    refine At.val (Val.loadAll (i := 3) Tryd.isAgg28 Tryd.sizeOf28 rfl rfl rfl) rfl rfl rfl ?_
    refine tM rfl rfl ?_
    refine At.val (Val.build (fun a ha => by simp only [List.map_toArray, List.map_cons, List.map_nil, ha.eval (x := (.tmp 85)) rfl, ha.eval (x := (.tmp 86)) rfl] <;> rfl) (bld_45_0_2 _ _ _ _ _ _ _ )) rfl rfl rfl ?_
    obtain ⟨e17, he17⟩ : ∃ e, e = restE Y P I' C' (4 + I' / 8) L := ⟨_, rfl⟩
    obtain ⟨R17, hR17⟩ : ∃ R, R = restL Y P I' C' (4 + I' / 8) L := ⟨_, rfl⟩
    refine At.callNT (g := (fun v => .tuple #[v, .int .i64 e17])) (fun w hw => (by have h0 := restore_n _ _ Y P I' C' (4 + I' / 8) L w (ht.mod hw.mod) (row_rd (hw.row (i := 0) rfl) (by decide)) (row_rd (hw.row (i := 2) rfl) (by decide)) (by omega) (by first | omega | (have h9 := growS_le L; omega)); rw [← he17, ← hR17] at h0; exact h0)) Tryd.call14 rfl rfl (fun v57 => ?_)
    refine tM rfl rfl ?_
    refine At.val (Val.extract rfl rfl) rfl rfl rfl ?_
    refine At.val (Val.extract rfl rfl) rfl rfl rfl ?_
    refine tA rfl rfl ?_
    refine tA rfl rfl ?_
    refine tE ?_
    refine At.seq ?_
    apply At.any (t := 11)
    · rfl
    refine KAt.pin (fun w hw => hw) ?_
    refine KAt.take 0 (Val.move rfl) rfl rfl rfl rfl (fun w hw => hw) (by decide +kernel) ?_
    refine KAt.take 1 (Val.loadAll (i := 4) Tryd.isAgg28 Tryd.sizeOf28 rfl rfl rfl) rfl rfl rfl rfl (fun w hw => hw) (by decide +kernel) ?_
    refine KAt.take 2 (Val.move rfl) rfl rfl rfl rfl (fun w hw => hw) (by decide +kernel) ?_
    refine KAt.only 3 rfl (by decide +kernel) ?_
    refine At.callN (fun w hw => other_n _ L w (row_rd (hw.row (i := 3) rfl) (by decide)) hso) Tryd.call15 rfl rfl (fun v58 => ?_)
    refine At.rowIs (i := 0) rfl (fun A59 c60 hv => ?_)
    subst hv
    refine At.nil ?_
    refine KAt.go (fun w hw => hw.drop (List.Sublist.cons _ (List.Sublist.cons_cons _ (List.Sublist.cons_cons _ (List.Sublist.cons_cons _ (List.Sublist.cons_cons _ (List.Sublist.cons_cons _ (List.Sublist.refl _)))))))) ?_
    refine KAt.take 4 (Val.build (fun a ha => by simp only [List.map_toArray, List.map_cons, List.map_nil, ha.eval (x := (.tmp 93)) rfl, ha.eval (x := (.tmp 95)) rfl] <;> rfl) (bld_45_0_2 _ _ _ _ _ _ _ )) rfl rfl rfl rfl (fun w hw => hw.drop (List.Sublist.cons _ (List.Sublist.cons_cons _ (List.Sublist.cons_cons _ (List.Sublist.cons_cons _ (List.Sublist.cons_cons _ (List.Sublist.cons_cons _ (List.Sublist.refl _)))))))) (by decide +kernel) ?_
    refine KAt.only 5 rfl (by decide +kernel) ?_
    obtain ⟨e18, he18⟩ : ∃ e, e = restE Y P I' C' (4 + I' / 8) (growS L) := ⟨_, rfl⟩
    obtain ⟨R18, hR18⟩ : ∃ R, R = restL Y P I' C' (4 + I' / 8) (growS L) := ⟨_, rfl⟩
    refine At.callNT (g := (fun v => .tuple #[v, .int .i64 e18])) (fun w hw => (by have h0 := restore_n _ _ Y P I' C' (4 + I' / 8) (growS L) w (ht.mod hw.mod) (row_rd (hw.row (i := 2) rfl) (by decide)) (row_rd (hw.row (i := 0) rfl) (by decide)) (by omega) (by first | omega | (have h9 := growS_le L; omega)); rw [← he18, ← hR18] at h0; exact h0)) Tryd.call14 rfl rfl (fun v61 => ?_)
    refine At.nil ?_
    refine KAt.go (fun w hw => hw.drop (List.Sublist.cons _ (List.Sublist.cons _ (List.Sublist.cons_cons _ (List.Sublist.cons_cons _ (List.Sublist.cons_cons _ (List.Sublist.cons_cons _ (List.Sublist.cons_cons _ (List.Sublist.refl _))))))))) ?_
    refine KAt.take 6 (Val.move rfl) rfl rfl rfl rfl (fun w hw => hw.drop (List.Sublist.cons _ (List.Sublist.cons _ (List.Sublist.cons_cons _ (List.Sublist.cons_cons _ (List.Sublist.cons_cons _ (List.Sublist.cons_cons _ (List.Sublist.cons_cons _ (List.Sublist.refl _))))))))) (by decide +kernel) ?_
    refine KAt.take 7 (Val.extract rfl rfl) rfl rfl rfl rfl (fun w hw => hw.drop (List.Sublist.cons _ (List.Sublist.cons _ (List.Sublist.cons_cons _ (List.Sublist.cons_cons _ (List.Sublist.cons_cons _ (List.Sublist.cons_cons _ (List.Sublist.cons_cons _ (List.Sublist.refl _))))))))) (by decide +kernel) ?_
    refine KAt.take 8 (Val.extract rfl rfl) rfl rfl rfl rfl (fun w hw => hw.drop (List.Sublist.cons _ (List.Sublist.cons _ (List.Sublist.cons_cons _ (List.Sublist.cons_cons _ (List.Sublist.cons_cons _ (List.Sublist.cons_cons _ (List.Sublist.cons_cons _ (List.Sublist.refl _))))))))) (by decide +kernel) ?_
    refine KAt.take 9 (Val.assign rfl) rfl rfl rfl rfl (fun w hw => hw.drop (List.Sublist.cons _ (List.Sublist.cons _ (List.Sublist.cons_cons _ (List.Sublist.cons_cons _ (List.Sublist.cons_cons _ (List.Sublist.cons_cons _ (List.Sublist.cons_cons _ (List.Sublist.refl _))))))))) (by decide +kernel) ?_
    refine KAt.take 10 (Val.assign rfl) rfl rfl rfl rfl (fun w hw => hw.drop (List.Sublist.cons _ (List.Sublist.cons _ (List.Sublist.cons_cons _ (List.Sublist.cons_cons _ (List.Sublist.cons_cons _ (List.Sublist.cons_cons _ (List.Sublist.cons_cons _ (List.Sublist.refl _))))))))) (by decide +kernel) ?_
    refine KAt.done (by decide +kernel) ?_
    have hA1 : e17 = 0 → R17 = L := fun h => by rw [hR17]; exact restL_yes (he17.symm.trans h)
    have hA2 : e18 = 0 → R18 = growS L := fun h => by rw [hR18]; exact restL_yes (he18.symm.trans h)
    have hC : ¬ (e17 = 0 ∧ e18 = 0) := fun ⟨h1, h2⟩ => growS_ne L ((restE_oL (he18.symm.trans h2)).symm.trans (restE_oL (he17.symm.trans h1)))
    have hB : b = [] → e17 = 0 := fun h => by rw [he17, hYb h]; exact (hR1 L).trans (if_pos rfl)
    refine At.thenN ?_
    refine At.seq ?_
    refine tR ?_
    refine tM rfl rfl ?_
    refine At.val (Val.bin rfl rfl rfl) rfl rfl rfl ?_
    refine tM rfl rfl ?_
    refine At.split (t := 102) rfl (fun h62 => ?_) (fun h62 => ?_)
    ·skip
     try simp only [hasB, isSizeB, Bool.not_eq_true', Bool.not_eq_false', bne_iff_ne, ne_eq, bne_eq_false_iff_eq, beq_iff_eq, beq_eq_false_iff_ne, decide_eq_true_eq, decide_eq_false_iff_not, gt_iff_lt, ge_iff_le] at h62
     have he0 : e17 = 0 := h62
     refine At.yes rfl rfl ?_
     refine tM rfl rfl ?_
     refine At.yes rfl rfl ?_
     refine tM rfl rfl ?_
     refine At.yes rfl rfl ?_
     refine At.callP (fun w hw => (by have h0 := sameSpL_p _ _ R17 L w (row_rd (hw.row (i := 2) rfl) (by decide)) (row_rd (hw.row (i := 5) rfl) (by decide)) (by rw [(hA1 he0)]; first | omega | (have h9 := growS_le L; omega)) (by first | omega | (have h9 := growS_le L; omega)); rwa [decide_eq_true (hA1 he0)] at h0)) Tryd.call16 rfl rfl ?_
     refine At.yes rfl rfl ?_
     refine At.val (Val.not rfl) rfl rfl rfl ?_
     refine At.val (Val.pickT rfl rfl) rfl rfl rfl ?_
     refine tM rfl rfl ?_
     refine At.yes rfl rfl ?_
     refine tM rfl rfl ?_
     refine At.yes rfl rfl ?_
     refine At.val (Val.bin rfl rfl rfl) rfl rfl rfl ?_
     rw [show (e17 != 0) = false from by rw [he0]; rfl]
     refine At.yes rfl rfl ?_
     refine tM rfl rfl ?_
     refine At.no rfl rfl rfl rfl ?_
     refine At.no rfl rfl rfl rfl ?_
     refine At.no rfl rfl rfl rfl ?_
     refine At.yes rfl rfl ?_
     refine At.val (Val.pickF rfl rfl) rfl rfl rfl ?_
     refine At.val (Val.pickF rfl rfl) rfl rfl rfl ?_
     refine tM rfl rfl ?_
     refine At.yes rfl rfl ?_
     refine tM rfl rfl ?_
     refine At.yes rfl rfl ?_
     refine At.val (Val.bin rfl rfl rfl) rfl rfl rfl ?_
     refine At.yes rfl rfl ?_
     refine tM rfl rfl ?_
     refine At.split (t := 120) rfl (fun h63 => ?_) (fun h63 => ?_)
     ·skip
      try simp only [hasB, isSizeB, Bool.not_eq_true', Bool.not_eq_false', bne_iff_ne, ne_eq, bne_eq_false_iff_eq, beq_iff_eq, beq_eq_false_iff_ne, decide_eq_true_eq, decide_eq_false_iff_not, gt_iff_lt, ge_iff_le] at h63
      have h2 : e18 = 0 := h63
      have hne : ¬ e17 = 0 := fun e => hC ⟨e, h2⟩
      refine At.yes rfl rfl ?_
      refine tM rfl rfl ?_
      refine At.yes rfl rfl ?_
      refine At.val (Val.bin rfl rfl rfl) rfl rfl rfl ?_
      rw [show (e17 == 0) = false from by rw [beq_eq_false_iff_ne]; exact hne]
      refine At.yes rfl rfl ?_
      refine tM rfl rfl ?_
      refine At.yes rfl rfl ?_
      refine tM rfl rfl ?_
      refine At.yes rfl rfl ?_
      refine tM rfl rfl ?_
      refine At.yes rfl rfl ?_
      refine At.callN (fun w hw => other_n _ L w (row_rd (hw.row (i := 5) rfl) (by decide)) hso) Tryd.call15 rfl rfl (fun v64 => ?_)
      refine At.rowIs (i := 0) rfl (fun A65 c66 hv => ?_)
      subst hv
      refine At.yes rfl rfl ?_
      refine At.callP (fun w hw => (by have h0 := sameSpL_p _ _ R18 (growS L) w (row_rd (hw.row (i := 1) rfl) (by decide)) (row_rd (hw.row (i := 0) rfl) (by decide)) (by rw [(hA2 h2)]; first | omega | (have h9 := growS_le L; omega)) (by first | omega | (have h9 := growS_le L; omega)); rwa [decide_eq_true (hA2 h2)] at h0)) Tryd.call16 rfl rfl ?_
      refine At.yes rfl rfl ?_
      refine At.val (Val.not rfl) rfl rfl rfl ?_
      refine At.yes rfl rfl ?_
      refine At.val (Val.pickF rfl rfl) rfl rfl rfl ?_
      refine At.yes rfl rfl ?_
      refine At.val (Val.pickT rfl rfl) rfl rfl rfl ?_
      refine At.val (Val.pickF rfl rfl) rfl rfl rfl ?_
      refine tE ?_
      refine At.condF rfl ?_
      refine At.skipC ?_
      refine At.thenN ?_
      refine At.seq ?_
      refine At.rowIs (i := 4) rfl (fun A67 c68 hv => ?_)
      subst hv
      apply At.any (t := 10)
      · rfl
      refine KAt.pin (fun w hw => hw) ?_
      refine KAt.take 0 (Val.move rfl) rfl rfl rfl rfl (fun w hw => hw) (by decide +kernel) ?_
      refine KAt.take 1 (Val.cutRow (i := 4) (l := 1) (h := Y.length) rfl (by decide) Tryd.underlying38 Tryd.sizeOf5 rfl (by exact ⟨_, _, rfl, by omega, by omega⟩) (by exact rfl) (by omega) (by omega)) rfl rfl rfl rfl (fun w hw => hw) (by decide +kernel) ?_
      refine KAt.take 2 (Val.loadAll (i := 7) Tryd.isAgg28 Tryd.sizeOf28 rfl rfl rfl) rfl rfl rfl rfl (fun w hw => hw) (by decide +kernel) ?_
      refine KAt.take 3 (Val.move rfl) rfl rfl rfl rfl (fun w hw => hw) (by decide +kernel) ?_
      refine KAt.take 4 (Val.build (fun a ha => by simp only [List.map_toArray, List.map_cons, List.map_nil, ha.eval (x := (.tmp 135)) rfl, ha.eval (x := (.tmp 136)) rfl] <;> rfl) (bld_45_0_2 _ _ _ _ _ _ _ )) rfl rfl rfl rfl (fun w hw => hw) (by decide +kernel) ?_
      refine KAt.only 5 rfl (by decide +kernel) ?_
      refine At.callNT (g := (fun v => .tuple #[v, .int .i64 30])) (fun w hw => (by have h0 := restore_n _ _ ((Y.drop 1).take (Y.length - 1)) P I' C' (4 + I' / 8) L w (ht.mod hw.mod) (RdB.cut (l := 1) (h := Y.length) (row_rd (hw.row (i := 4) rfl) (by decide)) (by omega) (by omega)) (row_rd (hw.row (i := 6) rfl) (by decide)) (by first | omega | (simp only [List.length_take, List.length_drop]; omega)) (by omega); rw [restL_no (restE_30 (.inr (by simp only [List.length_take, List.length_drop]; omega))) (by decide), restE_30 (.inr (by simp only [List.length_take, List.length_drop]; omega))] at h0; exact h0)) Tryd.call14 rfl rfl (fun v69 => ?_)
      refine At.nil ?_
      refine KAt.go (fun w hw => hw.drop (List.Sublist.cons _ (List.Sublist.cons_cons _ (List.Sublist.cons_cons _ (List.Sublist.cons_cons _ (List.Sublist.cons_cons _ (List.Sublist.cons_cons _ (List.Sublist.cons_cons _ (List.Sublist.cons_cons _ (List.Sublist.cons_cons _ (List.Sublist.refl _))))))))))) ?_
      refine KAt.take 6 (Val.move rfl) rfl rfl rfl rfl (fun w hw => hw.drop (List.Sublist.cons _ (List.Sublist.cons_cons _ (List.Sublist.cons_cons _ (List.Sublist.cons_cons _ (List.Sublist.cons_cons _ (List.Sublist.cons_cons _ (List.Sublist.cons_cons _ (List.Sublist.cons_cons _ (List.Sublist.cons_cons _ (List.Sublist.refl _))))))))))) (by decide +kernel) ?_
      refine KAt.take 7 (Val.extract rfl rfl) rfl rfl rfl rfl (fun w hw => hw.drop (List.Sublist.cons _ (List.Sublist.cons_cons _ (List.Sublist.cons_cons _ (List.Sublist.cons_cons _ (List.Sublist.cons_cons _ (List.Sublist.cons_cons _ (List.Sublist.cons_cons _ (List.Sublist.cons_cons _ (List.Sublist.cons_cons _ (List.Sublist.refl _))))))))))) (by decide +kernel) ?_
      refine KAt.take 8 (Val.extract rfl rfl) rfl rfl rfl rfl (fun w hw => hw.drop (List.Sublist.cons _ (List.Sublist.cons_cons _ (List.Sublist.cons_cons _ (List.Sublist.cons_cons _ (List.Sublist.cons_cons _ (List.Sublist.cons_cons _ (List.Sublist.cons_cons _ (List.Sublist.cons_cons _ (List.Sublist.cons_cons _ (List.Sublist.refl _))))))))))) (by decide +kernel) ?_
      refine KAt.take 9 (Val.assign rfl) rfl rfl rfl rfl (fun w hw => hw.drop (List.Sublist.cons _ (List.Sublist.cons_cons _ (List.Sublist.cons_cons _ (List.Sublist.cons_cons _ (List.Sublist.cons_cons _ (List.Sublist.cons_cons _ (List.Sublist.cons_cons _ (List.Sublist.cons_cons _ (List.Sublist.cons_cons _ (List.Sublist.refl _))))))))))) (by decide +kernel) ?_
      refine KAt.done (by decide +kernel) ?_
      refine At.thenN ?_
      refine tR ?_
      refine tM rfl rfl ?_
      refine At.val (Val.field 0 rfl fo_28_0 rfl) rfl rfl rfl ?_
      refine At.val (Val.load (i := 8) Tryd.isAgg3 rfl rfl rfl) rfl rfl rfl ?_
      refine At.val (Val.field 1 rfl fo_28_1 rfl) rfl rfl rfl ?_
      refine At.val (Val.load (i := 8) Tryd.isAgg3 rfl rfl rfl) rfl rfl rfl ?_
      refine At.val (Val.field 2 rfl fo_28_2 rfl) rfl rfl rfl ?_
      refine At.val (Val.load (i := 8) Tryd.isAgg3 rfl rfl rfl) rfl rfl rfl ?_
      refine At.val (Val.field 3 rfl fo_28_3 rfl) rfl rfl rfl ?_
      refine At.val (Val.load (i := 8) Tryd.isAgg3 rfl rfl rfl) rfl rfl rfl ?_
      first | refine At.val (Val.addI rfl rfl (by omega) (by omega)) rfl rfl rfl ?_ | refine At.val (Val.bin rfl rfl rfl) rfl rfl rfl ?_
      refine At.val (Val.build (fun a ha => by simp only [List.map_toArray, List.map_cons, List.map_nil, ha.eval (x := (.tmp 144)) rfl, ha.eval (x := (.tmp 146)) rfl, ha.eval (x := (.tmp 148)) rfl, ha.eval (x := (.tmp 151)) rfl] <;> rfl) (bld_28_0_1_2_3 _ _ _ _ )) rfl rfl rfl ?_
      refine tM rfl rfl ?_
      refine At.val (Val.build (fun a ha => by simp only [List.map_toArray, List.map_cons, List.map_nil, ha.eval (x := (.tmp 152)) rfl, ha.eval (x := (.tmp 153)) rfl] <;> rfl) (bld_45_0_2 _ _ _ _ _ _ _ )) rfl rfl rfl ?_
      refine At.callNT (g := (fun v => .tuple #[v, .int .i64 30])) (fun w hw => (by have h0 := restore_n _ _ Y P I' C' (4 + I' / 8 + 1) L w (ht.mod hw.mod) (row_rd (hw.row (i := 5) rfl) (by decide)) (row_rd (hw.row (i := 7) rfl) (by decide)) (by first | omega | (simp only [List.length_take, List.length_drop]; omega)) (by omega); rw [restL_no (restE_30 (.inl (by omega))) (by decide), restE_30 (.inl (by omega))] at h0; exact h0)) Tryd.call14 rfl rfl (fun v70 => ?_)
      refine tM rfl rfl ?_
      refine At.val (Val.extract rfl rfl) rfl rfl rfl ?_
      refine At.val (Val.extract rfl rfl) rfl rfl rfl ?_
      refine tA rfl rfl ?_
      refine tE ?_
      refine At.seq ?_
      refine tR ?_
      refine tA rfl rfl ?_
      refine tE ?_
      refine At.block ?_
      skip
      refine At.drop 5 ?_
      simp only [ec0, ecS]
      refine At.drop 4 ?_
      simp only [ec0, ecS]
      refine At.drop 3 ?_
      simp only [ec0, ecS]
      refine At.drop 2 ?_
      simp only [ec0, ecS]
      refine At.drop 1 ?_
      simp only [ec0, ecS]
      refine At.drop 0 ?_
      simp only [ec0, ecS]
      refine At.loop (σ := Nat × List UInt8) (fun s => (128 ≤ s.1 ∧ s.1 ≤ 136) ∧ s.2.length = Y.length ∧ ∀ j, 128 ≤ j → j < s.1 → s.2[j]? = some 0) (fun s => [(7, .pointer (some ⟨b2, 0, none⟩)), (8, (.slice A3 ((L).length) c4)), (13, (.slice A67 ((Y).length) c68)), (16, .int .i64 30), (18, .int .i64 30), (19, .int .i64 (s.1 : Int))]) (fun s => [rowR (.slice A67 ((Y).length) c68) 5 1 ((s.2).length) ((s.2).map bv), Dev p5 y7 (σ1), rowR (.slice A3 ((L).length) c4) 51 2 ((L).length) (prS (L)), blk b2 28 ([.int .i64 P, .int .i64 I', .int .i64 C', .int .i64 (4 + I' / 8)])]) (fun s => 136 - s.1) (128, Y) ⟨by dsimp only; omega, rfl, fun j h1 h2 => absurd h2 (by dsimp only; omega)⟩ (Sub.cons rfl (Sub.cons rfl (Sub.cons rfl (Sub.cons rfl (Sub.cons rfl (Sub.cons rfl Sub.nil)))))) (List.Perm.refl _) ?_
      intro s hs
      obtain ⟨k, Z⟩ := s
      dsimp only at hs ⊢
      obtain ⟨⟨hk1, hk2⟩, hZl, hZ⟩ := hs
      refine At.seq ?_
      refine tR ?_
      refine tM rfl rfl ?_
      refine At.val (Val.bin rfl rfl rfl) rfl rfl rfl ?_
      refine tE ?_
      refine At.cond rfl (fun h71 => ?_) (fun h71 => ?_)
      ·skip
       try simp only [hasB, isSizeB, Bool.not_eq_true', Bool.not_eq_false', bne_iff_ne, ne_eq, bne_eq_false_iff_eq, beq_iff_eq, beq_eq_false_iff_ne, decide_eq_true_eq, decide_eq_false_iff_not, gt_iff_lt, ge_iff_le] at h71
       refine At.skipC ?_
       refine At.thenN ?_
       refine At.seq ?_
       refine At.block ?_
       refine At.region ?_
       refine tM rfl rfl ?_
       refine tM rfl rfl ?_
       refine At.val (Val.indexRow (i := 0) k (by omega) Tryd.underlying38 Tryd.sizeOf5 rfl rfl rfl (by omega) (by omega)) rfl rfl rfl ?_
       refine At.storeRowB (i := 0) (c := 0) Tryd.sizeOf5 rfl rfl rfl (by omega) ?_
       simp only [sc0, scS]
       refine At.nil ?_
       refine At.blkN ?_
       refine At.thenN ?_
       refine At.region ?_
       refine tM rfl rfl ?_
       first | refine At.val (Val.addI rfl rfl (by omega) (by omega)) rfl rfl rfl ?_ | refine At.val (Val.bin rfl rfl rfl) rfl rfl rfl ?_
       refine tA rfl rfl ?_
       refine tE ?_
       exact At.again (k + 1, Z.set k 0) ⟨(by dsimp only; omega), (by dsimp only; rw [List.length_set]; exact hZl), set_zeros hk1 (by omega) hZ⟩ (by dsimp only; omega) (Sub.cons rfl (Sub.cons rfl (Sub.cons rfl (Sub.cons rfl (Sub.cons rfl (Sub.cons (congrArg (fun z => some (Value.int IntKind.i64 z)) (by dsimp only; omega)) Sub.nil)))))) (List.Perm.refl _)
      ·skip
       try simp only [hasB, isSizeB, Bool.not_eq_true', Bool.not_eq_false', bne_iff_ne, ne_eq, bne_eq_false_iff_eq, beq_iff_eq, beq_eq_false_iff_ne, decide_eq_true_eq, decide_eq_false_iff_not, gt_iff_lt, ge_iff_le] at h71
       refine At.exitC ?_
       refine At.thenX ?_
       refine At.thenX ?_
       refine At.blkX ?_
       refine At.thenN ?_
       refine tR ?_
       refine tM rfl rfl ?_
       refine At.val (Val.loadAll (i := 3) Tryd.isAgg28 Tryd.sizeOf28 rfl rfl rfl) rfl rfl rfl ?_
       refine tM rfl rfl ?_
       refine At.val (Val.build (fun a ha => by simp only [List.map_toArray, List.map_cons, List.map_nil, ha.eval (x := (.tmp 167)) rfl, ha.eval (x := (.tmp 168)) rfl] <;> rfl) (bld_45_0_2 _ _ _ _ _ _ _ )) rfl rfl rfl ?_
       refine At.callNT (g := (fun v => .tuple #[v, .int .i64 130])) (fun w hw => (by have h0 := restore_n _ _ Z P I' C' (4 + I' / 8) L w (ht.mod hw.mod) (row_rd (hw.row (i := 0) rfl) (by decide)) (row_rd (hw.row (i := 2) rfl) (by decide)) (by first | omega | (simp only [List.length_take, List.length_drop]; omega)) (by omega); rw [restL_no (restE_130 hg (by omega) (cleanT_zeros (fun j h1 h2 => hZ j h1 (by omega)))) (by decide), restE_130 hg (by omega) (cleanT_zeros (fun j h1 h2 => hZ j h1 (by omega)))] at h0; exact h0)) Tryd.call14 rfl rfl (fun v72 => ?_)
       refine tM rfl rfl ?_
       refine At.val (Val.extract rfl rfl) rfl rfl rfl ?_
       refine At.val (Val.extract rfl rfl) rfl rfl rfl ?_
       refine tA rfl rfl ?_
       refine tA rfl rfl ?_
       refine tE ?_
       refine tR ?_
       refine tM rfl rfl ?_
       refine At.val (Val.bin rfl rfl rfl) rfl rfl rfl ?_
       refine tM rfl rfl ?_
       refine At.yes rfl rfl ?_
       refine tM rfl rfl ?_
       refine At.yes rfl rfl ?_
       refine At.val (Val.bin rfl rfl rfl) rfl rfl rfl ?_
       refine At.val (Val.pickT rfl rfl) rfl rfl rfl ?_
       refine tM rfl rfl ?_
       refine At.yes rfl rfl ?_
       refine tM rfl rfl ?_
       refine At.yes rfl rfl ?_
       refine At.val (Val.bin rfl rfl rfl) rfl rfl rfl ?_
       refine At.val (Val.pickT rfl rfl) rfl rfl rfl ?_
       refine tA rfl rfl ?_
       refine tE ?_
       refine At.retC ?_
       refine At.ret1 (.inl rfl) rfl rfl rfl (fun w hw => ?_)
       exact ⟨rfl, hw.mod⟩
     ·skip
      try simp only [hasB, isSizeB, Bool.not_eq_true', Bool.not_eq_false', bne_iff_ne, ne_eq, bne_eq_false_iff_eq, beq_iff_eq, beq_eq_false_iff_ne, decide_eq_true_eq, decide_eq_false_iff_not, gt_iff_lt, ge_iff_le] at h63
      refine At.no rfl rfl rfl rfl ?_
      refine At.no rfl rfl rfl rfl ?_
      refine At.no rfl rfl rfl rfl ?_
      refine At.noU rfl rfl rfl ?_
      refine At.noU rfl rfl rfl ?_
      refine At.noU rfl rfl rfl ?_
      refine At.noU rfl rfl rfl ?_
      refine At.noU rfl rfl rfl ?_
      refine At.no rfl rfl rfl rfl ?_
      refine At.yes rfl rfl ?_
      refine At.val (Val.pickF rfl rfl) rfl rfl rfl ?_
      refine At.val (Val.pickF rfl rfl) rfl rfl rfl ?_
      refine tE ?_
      refine At.condF rfl ?_
      refine At.skipC ?_
      refine At.thenN ?_
      refine At.seq ?_
      refine At.rowIs (i := 3) rfl (fun A73 c74 hv => ?_)
      subst hv
      apply At.any (t := 10)
      · rfl
      refine KAt.pin (fun w hw => hw) ?_
      refine KAt.take 0 (Val.move rfl) rfl rfl rfl rfl (fun w hw => hw) (by decide +kernel) ?_
      refine KAt.take 1 (Val.cutRow (i := 3) (l := 1) (h := Y.length) rfl (by decide) Tryd.underlying38 Tryd.sizeOf5 rfl (by exact ⟨_, _, rfl, by omega, by omega⟩) (by exact rfl) (by omega) (by omega)) rfl rfl rfl rfl (fun w hw => hw) (by decide +kernel) ?_
      refine KAt.take 2 (Val.loadAll (i := 6) Tryd.isAgg28 Tryd.sizeOf28 rfl rfl rfl) rfl rfl rfl rfl (fun w hw => hw) (by decide +kernel) ?_
      refine KAt.take 3 (Val.move rfl) rfl rfl rfl rfl (fun w hw => hw) (by decide +kernel) ?_
      refine KAt.take 4 (Val.build (fun a ha => by simp only [List.map_toArray, List.map_cons, List.map_nil, ha.eval (x := (.tmp 135)) rfl, ha.eval (x := (.tmp 136)) rfl] <;> rfl) (bld_45_0_2 _ _ _ _ _ _ _ )) rfl rfl rfl rfl (fun w hw => hw) (by decide +kernel) ?_
      refine KAt.only 5 rfl (by decide +kernel) ?_
      refine At.callNT (g := (fun v => .tuple #[v, .int .i64 30])) (fun w hw => (by have h0 := restore_n _ _ ((Y.drop 1).take (Y.length - 1)) P I' C' (4 + I' / 8) L w (ht.mod hw.mod) (RdB.cut (l := 1) (h := Y.length) (row_rd (hw.row (i := 3) rfl) (by decide)) (by omega) (by omega)) (row_rd (hw.row (i := 5) rfl) (by decide)) (by first | omega | (simp only [List.length_take, List.length_drop]; omega)) (by omega); rw [restL_no (restE_30 (.inr (by simp only [List.length_take, List.length_drop]; omega))) (by decide), restE_30 (.inr (by simp only [List.length_take, List.length_drop]; omega))] at h0; exact h0)) Tryd.call14 rfl rfl (fun v75 => ?_)
      refine At.nil ?_
      refine KAt.go (fun w hw => hw.drop (List.Sublist.cons _ (List.Sublist.cons_cons _ (List.Sublist.cons_cons _ (List.Sublist.cons_cons _ (List.Sublist.cons_cons _ (List.Sublist.cons_cons _ (List.Sublist.cons_cons _ (List.Sublist.cons_cons _ (List.Sublist.refl _)))))))))) ?_
      refine KAt.take 6 (Val.move rfl) rfl rfl rfl rfl (fun w hw => hw.drop (List.Sublist.cons _ (List.Sublist.cons_cons _ (List.Sublist.cons_cons _ (List.Sublist.cons_cons _ (List.Sublist.cons_cons _ (List.Sublist.cons_cons _ (List.Sublist.cons_cons _ (List.Sublist.cons_cons _ (List.Sublist.refl _)))))))))) (by decide +kernel) ?_
      refine KAt.take 7 (Val.extract rfl rfl) rfl rfl rfl rfl (fun w hw => hw.drop (List.Sublist.cons _ (List.Sublist.cons_cons _ (List.Sublist.cons_cons _ (List.Sublist.cons_cons _ (List.Sublist.cons_cons _ (List.Sublist.cons_cons _ (List.Sublist.cons_cons _ (List.Sublist.cons_cons _ (List.Sublist.refl _)))))))))) (by decide +kernel) ?_
      refine KAt.take 8 (Val.extract rfl rfl) rfl rfl rfl rfl (fun w hw => hw.drop (List.Sublist.cons _ (List.Sublist.cons_cons _ (List.Sublist.cons_cons _ (List.Sublist.cons_cons _ (List.Sublist.cons_cons _ (List.Sublist.cons_cons _ (List.Sublist.cons_cons _ (List.Sublist.cons_cons _ (List.Sublist.refl _)))))))))) (by decide +kernel) ?_
      refine KAt.take 9 (Val.assign rfl) rfl rfl rfl rfl (fun w hw => hw.drop (List.Sublist.cons _ (List.Sublist.cons_cons _ (List.Sublist.cons_cons _ (List.Sublist.cons_cons _ (List.Sublist.cons_cons _ (List.Sublist.cons_cons _ (List.Sublist.cons_cons _ (List.Sublist.cons_cons _ (List.Sublist.refl _)))))))))) (by decide +kernel) ?_
      refine KAt.done (by decide +kernel) ?_
      refine At.thenN ?_
      refine tR ?_
      refine tM rfl rfl ?_
      refine At.val (Val.field 0 rfl fo_28_0 rfl) rfl rfl rfl ?_
      refine At.val (Val.load (i := 7) Tryd.isAgg3 rfl rfl rfl) rfl rfl rfl ?_
      refine At.val (Val.field 1 rfl fo_28_1 rfl) rfl rfl rfl ?_
      refine At.val (Val.load (i := 7) Tryd.isAgg3 rfl rfl rfl) rfl rfl rfl ?_
      refine At.val (Val.field 2 rfl fo_28_2 rfl) rfl rfl rfl ?_
      refine At.val (Val.load (i := 7) Tryd.isAgg3 rfl rfl rfl) rfl rfl rfl ?_
      refine At.val (Val.field 3 rfl fo_28_3 rfl) rfl rfl rfl ?_
      refine At.val (Val.load (i := 7) Tryd.isAgg3 rfl rfl rfl) rfl rfl rfl ?_
      first | refine At.val (Val.addI rfl rfl (by omega) (by omega)) rfl rfl rfl ?_ | refine At.val (Val.bin rfl rfl rfl) rfl rfl rfl ?_
      refine At.val (Val.build (fun a ha => by simp only [List.map_toArray, List.map_cons, List.map_nil, ha.eval (x := (.tmp 144)) rfl, ha.eval (x := (.tmp 146)) rfl, ha.eval (x := (.tmp 148)) rfl, ha.eval (x := (.tmp 151)) rfl] <;> rfl) (bld_28_0_1_2_3 _ _ _ _ )) rfl rfl rfl ?_
      refine tM rfl rfl ?_
      refine At.val (Val.build (fun a ha => by simp only [List.map_toArray, List.map_cons, List.map_nil, ha.eval (x := (.tmp 152)) rfl, ha.eval (x := (.tmp 153)) rfl] <;> rfl) (bld_45_0_2 _ _ _ _ _ _ _ )) rfl rfl rfl ?_
      refine At.callNT (g := (fun v => .tuple #[v, .int .i64 30])) (fun w hw => (by have h0 := restore_n _ _ Y P I' C' (4 + I' / 8 + 1) L w (ht.mod hw.mod) (row_rd (hw.row (i := 4) rfl) (by decide)) (row_rd (hw.row (i := 6) rfl) (by decide)) (by first | omega | (simp only [List.length_take, List.length_drop]; omega)) (by omega); rw [restL_no (restE_30 (.inl (by omega))) (by decide), restE_30 (.inl (by omega))] at h0; exact h0)) Tryd.call14 rfl rfl (fun v76 => ?_)
      refine tM rfl rfl ?_
      refine At.val (Val.extract rfl rfl) rfl rfl rfl ?_
      refine At.val (Val.extract rfl rfl) rfl rfl rfl ?_
      refine tA rfl rfl ?_
      refine tE ?_
      refine At.seq ?_
      refine tR ?_
      refine tA rfl rfl ?_
      refine tE ?_
      refine At.block ?_
      skip
      refine At.drop 4 ?_
      simp only [ec0, ecS]
      refine At.drop 3 ?_
      simp only [ec0, ecS]
      refine At.drop 2 ?_
      simp only [ec0, ecS]
      refine At.drop 1 ?_
      simp only [ec0, ecS]
      refine At.drop 0 ?_
      simp only [ec0, ecS]
      refine At.loop (σ := Nat × List UInt8) (fun s => (128 ≤ s.1 ∧ s.1 ≤ 136) ∧ s.2.length = Y.length ∧ ∀ j, 128 ≤ j → j < s.1 → s.2[j]? = some 0) (fun s => [(7, .pointer (some ⟨b2, 0, none⟩)), (8, (.slice A3 ((L).length) c4)), (13, (.slice A73 ((Y).length) c74)), (16, .int .i64 30), (18, .int .i64 30), (19, .int .i64 (s.1 : Int))]) (fun s => [rowR (.slice A73 ((Y).length) c74) 5 1 ((s.2).length) ((s.2).map bv), Dev p5 y7 (σ1), rowR (.slice A3 ((L).length) c4) 51 2 ((L).length) (prS (L)), blk b2 28 ([.int .i64 P, .int .i64 I', .int .i64 C', .int .i64 (4 + I' / 8)])]) (fun s => 136 - s.1) (128, Y) ⟨by dsimp only; omega, rfl, fun j h1 h2 => absurd h2 (by dsimp only; omega)⟩ (Sub.cons rfl (Sub.cons rfl (Sub.cons rfl (Sub.cons rfl (Sub.cons rfl (Sub.cons rfl Sub.nil)))))) (List.Perm.refl _) ?_
      intro s hs
      obtain ⟨k, Z⟩ := s
      dsimp only at hs ⊢
      obtain ⟨⟨hk1, hk2⟩, hZl, hZ⟩ := hs
      refine At.seq ?_
      refine tR ?_
      refine tM rfl rfl ?_
      refine At.val (Val.bin rfl rfl rfl) rfl rfl rfl ?_
      refine tE ?_
      refine At.cond rfl (fun h77 => ?_) (fun h77 => ?_)
      ·skip
       try simp only [hasB, isSizeB, Bool.not_eq_true', Bool.not_eq_false', bne_iff_ne, ne_eq, bne_eq_false_iff_eq, beq_iff_eq, beq_eq_false_iff_ne, decide_eq_true_eq, decide_eq_false_iff_not, gt_iff_lt, ge_iff_le] at h77
       refine At.skipC ?_
       refine At.thenN ?_
       refine At.seq ?_
       refine At.block ?_
       refine At.region ?_
       refine tM rfl rfl ?_
       refine tM rfl rfl ?_
       refine At.val (Val.indexRow (i := 0) k (by omega) Tryd.underlying38 Tryd.sizeOf5 rfl rfl rfl (by omega) (by omega)) rfl rfl rfl ?_
       refine At.storeRowB (i := 0) (c := 0) Tryd.sizeOf5 rfl rfl rfl (by omega) ?_
       simp only [sc0, scS]
       refine At.nil ?_
       refine At.blkN ?_
       refine At.thenN ?_
       refine At.region ?_
       refine tM rfl rfl ?_
       first | refine At.val (Val.addI rfl rfl (by omega) (by omega)) rfl rfl rfl ?_ | refine At.val (Val.bin rfl rfl rfl) rfl rfl rfl ?_
       refine tA rfl rfl ?_
       refine tE ?_
       exact At.again (k + 1, Z.set k 0) ⟨(by dsimp only; omega), (by dsimp only; rw [List.length_set]; exact hZl), set_zeros hk1 (by omega) hZ⟩ (by dsimp only; omega) (Sub.cons rfl (Sub.cons rfl (Sub.cons rfl (Sub.cons rfl (Sub.cons rfl (Sub.cons (congrArg (fun z => some (Value.int IntKind.i64 z)) (by dsimp only; omega)) Sub.nil)))))) (List.Perm.refl _)
      ·skip
       try simp only [hasB, isSizeB, Bool.not_eq_true', Bool.not_eq_false', bne_iff_ne, ne_eq, bne_eq_false_iff_eq, beq_iff_eq, beq_eq_false_iff_ne, decide_eq_true_eq, decide_eq_false_iff_not, gt_iff_lt, ge_iff_le] at h77
       refine At.exitC ?_
       refine At.thenX ?_
       refine At.thenX ?_
       refine At.blkX ?_
       refine At.thenN ?_
       refine tR ?_
       refine tM rfl rfl ?_
       refine At.val (Val.loadAll (i := 3) Tryd.isAgg28 Tryd.sizeOf28 rfl rfl rfl) rfl rfl rfl ?_
       refine tM rfl rfl ?_
       refine At.val (Val.build (fun a ha => by simp only [List.map_toArray, List.map_cons, List.map_nil, ha.eval (x := (.tmp 167)) rfl, ha.eval (x := (.tmp 168)) rfl] <;> rfl) (bld_45_0_2 _ _ _ _ _ _ _ )) rfl rfl rfl ?_
       refine At.callNT (g := (fun v => .tuple #[v, .int .i64 130])) (fun w hw => (by have h0 := restore_n _ _ Z P I' C' (4 + I' / 8) L w (ht.mod hw.mod) (row_rd (hw.row (i := 0) rfl) (by decide)) (row_rd (hw.row (i := 2) rfl) (by decide)) (by first | omega | (simp only [List.length_take, List.length_drop]; omega)) (by omega); rw [restL_no (restE_130 hg (by omega) (cleanT_zeros (fun j h1 h2 => hZ j h1 (by omega)))) (by decide), restE_130 hg (by omega) (cleanT_zeros (fun j h1 h2 => hZ j h1 (by omega)))] at h0; exact h0)) Tryd.call14 rfl rfl (fun v78 => ?_)
       refine tM rfl rfl ?_
       refine At.val (Val.extract rfl rfl) rfl rfl rfl ?_
       refine At.val (Val.extract rfl rfl) rfl rfl rfl ?_
       refine tA rfl rfl ?_
       refine tA rfl rfl ?_
       refine tE ?_
       refine tR ?_
       refine tM rfl rfl ?_
       refine At.val (Val.bin rfl rfl rfl) rfl rfl rfl ?_
       refine tM rfl rfl ?_
       refine At.yes rfl rfl ?_
       refine tM rfl rfl ?_
       refine At.yes rfl rfl ?_
       refine At.val (Val.bin rfl rfl rfl) rfl rfl rfl ?_
       refine At.val (Val.pickT rfl rfl) rfl rfl rfl ?_
       refine tM rfl rfl ?_
       refine At.yes rfl rfl ?_
       refine tM rfl rfl ?_
       refine At.yes rfl rfl ?_
       refine At.val (Val.bin rfl rfl rfl) rfl rfl rfl ?_
       refine At.val (Val.pickT rfl rfl) rfl rfl rfl ?_
       refine tA rfl rfl ?_
       refine tE ?_
       refine At.retC ?_
       refine At.ret1 (.inl rfl) rfl rfl rfl (fun w hw => ?_)
       exact ⟨rfl, hw.mod⟩
    ·skip
     try simp only [hasB, isSizeB, Bool.not_eq_true', Bool.not_eq_false', bne_iff_ne, ne_eq, bne_eq_false_iff_eq, beq_iff_eq, beq_eq_false_iff_ne, decide_eq_true_eq, decide_eq_false_iff_not, gt_iff_lt, ge_iff_le] at h62
     have he0 : ¬ e17 = 0 := h62
     refine At.no rfl rfl rfl rfl ?_
     refine At.no rfl rfl rfl rfl ?_
     refine At.no rfl rfl rfl rfl ?_
     refine At.no rfl rfl rfl rfl ?_
     refine At.val (Val.pickF rfl rfl) rfl rfl rfl ?_
     refine tM rfl rfl ?_
     refine At.yes rfl rfl ?_
     refine tM rfl rfl ?_
     refine At.yes rfl rfl ?_
     refine At.val (Val.bin rfl rfl rfl) rfl rfl rfl ?_
     rw [show (e17 != 0) = true from bne_iff_ne.2 he0]
     refine At.yes rfl rfl ?_
     refine tM rfl rfl ?_
     refine At.yes rfl rfl ?_
     refine tM rfl rfl ?_
     refine At.yes rfl rfl ?_
     refine At.val (Val.lenRd hvb Tryd.underlying38 rfl) rfl rfl rfl ?_
     refine At.yes rfl rfl ?_
     refine At.val (Val.bin rfl rfl rfl) rfl rfl rfl ?_
     rw [show (((b.length : Nat) : Int) == 0) = false from by rw [beq_eq_false_iff_ne]; intro e; exact he0 (hB (List.eq_nil_of_length_eq_zero (by omega)))]
     refine At.yes rfl rfl ?_
     refine At.val (Val.pickT rfl rfl) rfl rfl rfl ?_
     refine At.val (Val.pickF rfl rfl) rfl rfl rfl ?_
     refine tM rfl rfl ?_
     refine At.yes rfl rfl ?_
     refine tM rfl rfl ?_
     refine At.yes rfl rfl ?_
     refine At.val (Val.bin rfl rfl rfl) rfl rfl rfl ?_
     refine At.yes rfl rfl ?_
     refine tM rfl rfl ?_
     refine At.split (t := 120) rfl (fun h79 => ?_) (fun h79 => ?_)
     ·skip
      try simp only [hasB, isSizeB, Bool.not_eq_true', Bool.not_eq_false', bne_iff_ne, ne_eq, bne_eq_false_iff_eq, beq_iff_eq, beq_eq_false_iff_ne, decide_eq_true_eq, decide_eq_false_iff_not, gt_iff_lt, ge_iff_le] at h79
      have h2 : e18 = 0 := h79
      have hne : ¬ e17 = 0 := fun e => hC ⟨e, h2⟩
      refine At.yes rfl rfl ?_
      refine tM rfl rfl ?_
      refine At.yes rfl rfl ?_
      refine At.val (Val.bin rfl rfl rfl) rfl rfl rfl ?_
      rw [show (e17 == 0) = false from by rw [beq_eq_false_iff_ne]; exact hne]
      refine At.yes rfl rfl ?_
      refine tM rfl rfl ?_
      refine At.yes rfl rfl ?_
      refine tM rfl rfl ?_
      refine At.yes rfl rfl ?_
      refine tM rfl rfl ?_
      refine At.yes rfl rfl ?_
      refine At.callN (fun w hw => other_n _ L w (row_rd (hw.row (i := 5) rfl) (by decide)) hso) Tryd.call15 rfl rfl (fun v80 => ?_)
      refine At.rowIs (i := 0) rfl (fun A81 c82 hv => ?_)
      subst hv
      refine At.yes rfl rfl ?_
      refine At.callP (fun w hw => (by have h0 := sameSpL_p _ _ R18 (growS L) w (row_rd (hw.row (i := 1) rfl) (by decide)) (row_rd (hw.row (i := 0) rfl) (by decide)) (by rw [(hA2 h2)]; first | omega | (have h9 := growS_le L; omega)) (by first | omega | (have h9 := growS_le L; omega)); rwa [decide_eq_true (hA2 h2)] at h0)) Tryd.call16 rfl rfl ?_
      refine At.yes rfl rfl ?_
      refine At.val (Val.not rfl) rfl rfl rfl ?_
      refine At.yes rfl rfl ?_
      refine At.val (Val.pickF rfl rfl) rfl rfl rfl ?_
      refine At.yes rfl rfl ?_
      refine At.val (Val.pickT rfl rfl) rfl rfl rfl ?_
      refine At.val (Val.pickF rfl rfl) rfl rfl rfl ?_
      refine tE ?_
      refine At.condF rfl ?_
      refine At.skipC ?_
      refine At.thenN ?_
      refine At.seq ?_
      refine At.rowIs (i := 4) rfl (fun A83 c84 hv => ?_)
      subst hv
      apply At.any (t := 10)
      · rfl
      refine KAt.pin (fun w hw => hw) ?_
      refine KAt.take 0 (Val.move rfl) rfl rfl rfl rfl (fun w hw => hw) (by decide +kernel) ?_
      refine KAt.take 1 (Val.cutRow (i := 4) (l := 1) (h := Y.length) rfl (by decide) Tryd.underlying38 Tryd.sizeOf5 rfl (by exact ⟨_, _, rfl, by omega, by omega⟩) (by exact rfl) (by omega) (by omega)) rfl rfl rfl rfl (fun w hw => hw) (by decide +kernel) ?_
      refine KAt.take 2 (Val.loadAll (i := 7) Tryd.isAgg28 Tryd.sizeOf28 rfl rfl rfl) rfl rfl rfl rfl (fun w hw => hw) (by decide +kernel) ?_
      refine KAt.take 3 (Val.move rfl) rfl rfl rfl rfl (fun w hw => hw) (by decide +kernel) ?_
      refine KAt.take 4 (Val.build (fun a ha => by simp only [List.map_toArray, List.map_cons, List.map_nil, ha.eval (x := (.tmp 135)) rfl, ha.eval (x := (.tmp 136)) rfl] <;> rfl) (bld_45_0_2 _ _ _ _ _ _ _ )) rfl rfl rfl rfl (fun w hw => hw) (by decide +kernel) ?_
      refine KAt.only 5 rfl (by decide +kernel) ?_
      refine At.callNT (g := (fun v => .tuple #[v, .int .i64 30])) (fun w hw => (by have h0 := restore_n _ _ ((Y.drop 1).take (Y.length - 1)) P I' C' (4 + I' / 8) L w (ht.mod hw.mod) (RdB.cut (l := 1) (h := Y.length) (row_rd (hw.row (i := 4) rfl) (by decide)) (by omega) (by omega)) (row_rd (hw.row (i := 6) rfl) (by decide)) (by first | omega | (simp only [List.length_take, List.length_drop]; omega)) (by omega); rw [restL_no (restE_30 (.inr (by simp only [List.length_take, List.length_drop]; omega))) (by decide), restE_30 (.inr (by simp only [List.length_take, List.length_drop]; omega))] at h0; exact h0)) Tryd.call14 rfl rfl (fun v85 => ?_)
      refine At.nil ?_
      refine KAt.go (fun w hw => hw.drop (List.Sublist.cons _ (List.Sublist.cons_cons _ (List.Sublist.cons_cons _ (List.Sublist.cons_cons _ (List.Sublist.cons_cons _ (List.Sublist.cons_cons _ (List.Sublist.cons_cons _ (List.Sublist.cons_cons _ (List.Sublist.cons_cons _ (List.Sublist.refl _))))))))))) ?_
      refine KAt.take 6 (Val.move rfl) rfl rfl rfl rfl (fun w hw => hw.drop (List.Sublist.cons _ (List.Sublist.cons_cons _ (List.Sublist.cons_cons _ (List.Sublist.cons_cons _ (List.Sublist.cons_cons _ (List.Sublist.cons_cons _ (List.Sublist.cons_cons _ (List.Sublist.cons_cons _ (List.Sublist.cons_cons _ (List.Sublist.refl _))))))))))) (by decide +kernel) ?_
      refine KAt.take 7 (Val.extract rfl rfl) rfl rfl rfl rfl (fun w hw => hw.drop (List.Sublist.cons _ (List.Sublist.cons_cons _ (List.Sublist.cons_cons _ (List.Sublist.cons_cons _ (List.Sublist.cons_cons _ (List.Sublist.cons_cons _ (List.Sublist.cons_cons _ (List.Sublist.cons_cons _ (List.Sublist.cons_cons _ (List.Sublist.refl _))))))))))) (by decide +kernel) ?_
      refine KAt.take 8 (Val.extract rfl rfl) rfl rfl rfl rfl (fun w hw => hw.drop (List.Sublist.cons _ (List.Sublist.cons_cons _ (List.Sublist.cons_cons _ (List.Sublist.cons_cons _ (List.Sublist.cons_cons _ (List.Sublist.cons_cons _ (List.Sublist.cons_cons _ (List.Sublist.cons_cons _ (List.Sublist.cons_cons _ (List.Sublist.refl _))))))))))) (by decide +kernel) ?_
      refine KAt.take 9 (Val.assign rfl) rfl rfl rfl rfl (fun w hw => hw.drop (List.Sublist.cons _ (List.Sublist.cons_cons _ (List.Sublist.cons_cons _ (List.Sublist.cons_cons _ (List.Sublist.cons_cons _ (List.Sublist.cons_cons _ (List.Sublist.cons_cons _ (List.Sublist.cons_cons _ (List.Sublist.cons_cons _ (List.Sublist.refl _))))))))))) (by decide +kernel) ?_
      refine KAt.done (by decide +kernel) ?_
      refine At.thenN ?_
      refine tR ?_
      refine tM rfl rfl ?_
      refine At.val (Val.field 0 rfl fo_28_0 rfl) rfl rfl rfl ?_
      refine At.val (Val.load (i := 8) Tryd.isAgg3 rfl rfl rfl) rfl rfl rfl ?_
      refine At.val (Val.field 1 rfl fo_28_1 rfl) rfl rfl rfl ?_
      refine At.val (Val.load (i := 8) Tryd.isAgg3 rfl rfl rfl) rfl rfl rfl ?_
      refine At.val (Val.field 2 rfl fo_28_2 rfl) rfl rfl rfl ?_
      refine At.val (Val.load (i := 8) Tryd.isAgg3 rfl rfl rfl) rfl rfl rfl ?_
      refine At.val (Val.field 3 rfl fo_28_3 rfl) rfl rfl rfl ?_
      refine At.val (Val.load (i := 8) Tryd.isAgg3 rfl rfl rfl) rfl rfl rfl ?_
      first | refine At.val (Val.addI rfl rfl (by omega) (by omega)) rfl rfl rfl ?_ | refine At.val (Val.bin rfl rfl rfl) rfl rfl rfl ?_
      refine At.val (Val.build (fun a ha => by simp only [List.map_toArray, List.map_cons, List.map_nil, ha.eval (x := (.tmp 144)) rfl, ha.eval (x := (.tmp 146)) rfl, ha.eval (x := (.tmp 148)) rfl, ha.eval (x := (.tmp 151)) rfl] <;> rfl) (bld_28_0_1_2_3 _ _ _ _ )) rfl rfl rfl ?_
      refine tM rfl rfl ?_
      refine At.val (Val.build (fun a ha => by simp only [List.map_toArray, List.map_cons, List.map_nil, ha.eval (x := (.tmp 152)) rfl, ha.eval (x := (.tmp 153)) rfl] <;> rfl) (bld_45_0_2 _ _ _ _ _ _ _ )) rfl rfl rfl ?_
      refine At.callNT (g := (fun v => .tuple #[v, .int .i64 30])) (fun w hw => (by have h0 := restore_n _ _ Y P I' C' (4 + I' / 8 + 1) L w (ht.mod hw.mod) (row_rd (hw.row (i := 5) rfl) (by decide)) (row_rd (hw.row (i := 7) rfl) (by decide)) (by first | omega | (simp only [List.length_take, List.length_drop]; omega)) (by omega); rw [restL_no (restE_30 (.inl (by omega))) (by decide), restE_30 (.inl (by omega))] at h0; exact h0)) Tryd.call14 rfl rfl (fun v86 => ?_)
      refine tM rfl rfl ?_
      refine At.val (Val.extract rfl rfl) rfl rfl rfl ?_
      refine At.val (Val.extract rfl rfl) rfl rfl rfl ?_
      refine tA rfl rfl ?_
      refine tE ?_
      refine At.seq ?_
      refine tR ?_
      refine tA rfl rfl ?_
      refine tE ?_
      refine At.block ?_
      skip
      refine At.drop 5 ?_
      simp only [ec0, ecS]
      refine At.drop 4 ?_
      simp only [ec0, ecS]
      refine At.drop 3 ?_
      simp only [ec0, ecS]
      refine At.drop 2 ?_
      simp only [ec0, ecS]
      refine At.drop 1 ?_
      simp only [ec0, ecS]
      refine At.drop 0 ?_
      simp only [ec0, ecS]
      refine At.loop (σ := Nat × List UInt8) (fun s => (128 ≤ s.1 ∧ s.1 ≤ 136) ∧ s.2.length = Y.length ∧ ∀ j, 128 ≤ j → j < s.1 → s.2[j]? = some 0) (fun s => [(7, .pointer (some ⟨b2, 0, none⟩)), (8, (.slice A3 ((L).length) c4)), (13, (.slice A83 ((Y).length) c84)), (16, .int .i64 30), (18, .int .i64 30), (19, .int .i64 (s.1 : Int))]) (fun s => [rowR (.slice A83 ((Y).length) c84) 5 1 ((s.2).length) ((s.2).map bv), Dev p5 y7 (σ1), rowR (.slice A3 ((L).length) c4) 51 2 ((L).length) (prS (L)), blk b2 28 ([.int .i64 P, .int .i64 I', .int .i64 C', .int .i64 (4 + I' / 8)])]) (fun s => 136 - s.1) (128, Y) ⟨by dsimp only; omega, rfl, fun j h1 h2 => absurd h2 (by dsimp only; omega)⟩ (Sub.cons rfl (Sub.cons rfl (Sub.cons rfl (Sub.cons rfl (Sub.cons rfl (Sub.cons rfl Sub.nil)))))) (List.Perm.refl _) ?_
      intro s hs
      obtain ⟨k, Z⟩ := s
      dsimp only at hs ⊢
      obtain ⟨⟨hk1, hk2⟩, hZl, hZ⟩ := hs
      refine At.seq ?_
      refine tR ?_
      refine tM rfl rfl ?_
      refine At.val (Val.bin rfl rfl rfl) rfl rfl rfl ?_
      refine tE ?_
      refine At.cond rfl (fun h87 => ?_) (fun h87 => ?_)
      ·skip
       try simp only [hasB, isSizeB, Bool.not_eq_true', Bool.not_eq_false', bne_iff_ne, ne_eq, bne_eq_false_iff_eq, beq_iff_eq, beq_eq_false_iff_ne, decide_eq_true_eq, decide_eq_false_iff_not, gt_iff_lt, ge_iff_le] at h87
       refine At.skipC ?_
       refine At.thenN ?_
       refine At.seq ?_
       refine At.block ?_
       refine At.region ?_
       refine tM rfl rfl ?_
       refine tM rfl rfl ?_
       refine At.val (Val.indexRow (i := 0) k (by omega) Tryd.underlying38 Tryd.sizeOf5 rfl rfl rfl (by omega) (by omega)) rfl rfl rfl ?_
       refine At.storeRowB (i := 0) (c := 0) Tryd.sizeOf5 rfl rfl rfl (by omega) ?_
       simp only [sc0, scS]
       refine At.nil ?_
       refine At.blkN ?_
       refine At.thenN ?_
       refine At.region ?_
       refine tM rfl rfl ?_
       first | refine At.val (Val.addI rfl rfl (by omega) (by omega)) rfl rfl rfl ?_ | refine At.val (Val.bin rfl rfl rfl) rfl rfl rfl ?_
       refine tA rfl rfl ?_
       refine tE ?_
       exact At.again (k + 1, Z.set k 0) ⟨(by dsimp only; omega), (by dsimp only; rw [List.length_set]; exact hZl), set_zeros hk1 (by omega) hZ⟩ (by dsimp only; omega) (Sub.cons rfl (Sub.cons rfl (Sub.cons rfl (Sub.cons rfl (Sub.cons rfl (Sub.cons (congrArg (fun z => some (Value.int IntKind.i64 z)) (by dsimp only; omega)) Sub.nil)))))) (List.Perm.refl _)
      ·skip
       try simp only [hasB, isSizeB, Bool.not_eq_true', Bool.not_eq_false', bne_iff_ne, ne_eq, bne_eq_false_iff_eq, beq_iff_eq, beq_eq_false_iff_ne, decide_eq_true_eq, decide_eq_false_iff_not, gt_iff_lt, ge_iff_le] at h87
       refine At.exitC ?_
       refine At.thenX ?_
       refine At.thenX ?_
       refine At.blkX ?_
       refine At.thenN ?_
       refine tR ?_
       refine tM rfl rfl ?_
       refine At.val (Val.loadAll (i := 3) Tryd.isAgg28 Tryd.sizeOf28 rfl rfl rfl) rfl rfl rfl ?_
       refine tM rfl rfl ?_
       refine At.val (Val.build (fun a ha => by simp only [List.map_toArray, List.map_cons, List.map_nil, ha.eval (x := (.tmp 167)) rfl, ha.eval (x := (.tmp 168)) rfl] <;> rfl) (bld_45_0_2 _ _ _ _ _ _ _ )) rfl rfl rfl ?_
       refine At.callNT (g := (fun v => .tuple #[v, .int .i64 130])) (fun w hw => (by have h0 := restore_n _ _ Z P I' C' (4 + I' / 8) L w (ht.mod hw.mod) (row_rd (hw.row (i := 0) rfl) (by decide)) (row_rd (hw.row (i := 2) rfl) (by decide)) (by first | omega | (simp only [List.length_take, List.length_drop]; omega)) (by omega); rw [restL_no (restE_130 hg (by omega) (cleanT_zeros (fun j h1 h2 => hZ j h1 (by omega)))) (by decide), restE_130 hg (by omega) (cleanT_zeros (fun j h1 h2 => hZ j h1 (by omega)))] at h0; exact h0)) Tryd.call14 rfl rfl (fun v88 => ?_)
       refine tM rfl rfl ?_
       refine At.val (Val.extract rfl rfl) rfl rfl rfl ?_
       refine At.val (Val.extract rfl rfl) rfl rfl rfl ?_
       refine tA rfl rfl ?_
       refine tA rfl rfl ?_
       refine tE ?_
       refine tR ?_
       refine tM rfl rfl ?_
       refine At.val (Val.bin rfl rfl rfl) rfl rfl rfl ?_
       refine tM rfl rfl ?_
       refine At.yes rfl rfl ?_
       refine tM rfl rfl ?_
       refine At.yes rfl rfl ?_
       refine At.val (Val.bin rfl rfl rfl) rfl rfl rfl ?_
       refine At.val (Val.pickT rfl rfl) rfl rfl rfl ?_
       refine tM rfl rfl ?_
       refine At.yes rfl rfl ?_
       refine tM rfl rfl ?_
       refine At.yes rfl rfl ?_
       refine At.val (Val.bin rfl rfl rfl) rfl rfl rfl ?_
       refine At.val (Val.pickT rfl rfl) rfl rfl rfl ?_
       refine tA rfl rfl ?_
       refine tE ?_
       refine At.retC ?_
       refine At.ret1 (.inl rfl) rfl rfl rfl (fun w hw => ?_)
       exact ⟨rfl, hw.mod⟩
     ·skip
      try simp only [hasB, isSizeB, Bool.not_eq_true', Bool.not_eq_false', bne_iff_ne, ne_eq, bne_eq_false_iff_eq, beq_iff_eq, beq_eq_false_iff_ne, decide_eq_true_eq, decide_eq_false_iff_not, gt_iff_lt, ge_iff_le] at h79
      refine At.no rfl rfl rfl rfl ?_
      refine At.no rfl rfl rfl rfl ?_
      refine At.no rfl rfl rfl rfl ?_
      refine At.noU rfl rfl rfl ?_
      refine At.noU rfl rfl rfl ?_
      refine At.noU rfl rfl rfl ?_
      refine At.noU rfl rfl rfl ?_
      refine At.noU rfl rfl rfl ?_
      refine At.no rfl rfl rfl rfl ?_
      refine At.yes rfl rfl ?_
      refine At.val (Val.pickF rfl rfl) rfl rfl rfl ?_
      refine At.val (Val.pickF rfl rfl) rfl rfl rfl ?_
      refine tE ?_
      refine At.condF rfl ?_
      refine At.skipC ?_
      refine At.thenN ?_
      refine At.seq ?_
      refine At.rowIs (i := 3) rfl (fun A89 c90 hv => ?_)
      subst hv
      apply At.any (t := 10)
      · rfl
      refine KAt.pin (fun w hw => hw) ?_
      refine KAt.take 0 (Val.move rfl) rfl rfl rfl rfl (fun w hw => hw) (by decide +kernel) ?_
      refine KAt.take 1 (Val.cutRow (i := 3) (l := 1) (h := Y.length) rfl (by decide) Tryd.underlying38 Tryd.sizeOf5 rfl (by exact ⟨_, _, rfl, by omega, by omega⟩) (by exact rfl) (by omega) (by omega)) rfl rfl rfl rfl (fun w hw => hw) (by decide +kernel) ?_
      refine KAt.take 2 (Val.loadAll (i := 6) Tryd.isAgg28 Tryd.sizeOf28 rfl rfl rfl) rfl rfl rfl rfl (fun w hw => hw) (by decide +kernel) ?_
      refine KAt.take 3 (Val.move rfl) rfl rfl rfl rfl (fun w hw => hw) (by decide +kernel) ?_
      refine KAt.take 4 (Val.build (fun a ha => by simp only [List.map_toArray, List.map_cons, List.map_nil, ha.eval (x := (.tmp 135)) rfl, ha.eval (x := (.tmp 136)) rfl] <;> rfl) (bld_45_0_2 _ _ _ _ _ _ _ )) rfl rfl rfl rfl (fun w hw => hw) (by decide +kernel) ?_
      refine KAt.only 5 rfl (by decide +kernel) ?_
      refine At.callNT (g := (fun v => .tuple #[v, .int .i64 30])) (fun w hw => (by have h0 := restore_n _ _ ((Y.drop 1).take (Y.length - 1)) P I' C' (4 + I' / 8) L w (ht.mod hw.mod) (RdB.cut (l := 1) (h := Y.length) (row_rd (hw.row (i := 3) rfl) (by decide)) (by omega) (by omega)) (row_rd (hw.row (i := 5) rfl) (by decide)) (by first | omega | (simp only [List.length_take, List.length_drop]; omega)) (by omega); rw [restL_no (restE_30 (.inr (by simp only [List.length_take, List.length_drop]; omega))) (by decide), restE_30 (.inr (by simp only [List.length_take, List.length_drop]; omega))] at h0; exact h0)) Tryd.call14 rfl rfl (fun v91 => ?_)
      refine At.nil ?_
      refine KAt.go (fun w hw => hw.drop (List.Sublist.cons _ (List.Sublist.cons_cons _ (List.Sublist.cons_cons _ (List.Sublist.cons_cons _ (List.Sublist.cons_cons _ (List.Sublist.cons_cons _ (List.Sublist.cons_cons _ (List.Sublist.cons_cons _ (List.Sublist.refl _)))))))))) ?_
      refine KAt.take 6 (Val.move rfl) rfl rfl rfl rfl (fun w hw => hw.drop (List.Sublist.cons _ (List.Sublist.cons_cons _ (List.Sublist.cons_cons _ (List.Sublist.cons_cons _ (List.Sublist.cons_cons _ (List.Sublist.cons_cons _ (List.Sublist.cons_cons _ (List.Sublist.cons_cons _ (List.Sublist.refl _)))))))))) (by decide +kernel) ?_
      refine KAt.take 7 (Val.extract rfl rfl) rfl rfl rfl rfl (fun w hw => hw.drop (List.Sublist.cons _ (List.Sublist.cons_cons _ (List.Sublist.cons_cons _ (List.Sublist.cons_cons _ (List.Sublist.cons_cons _ (List.Sublist.cons_cons _ (List.Sublist.cons_cons _ (List.Sublist.cons_cons _ (List.Sublist.refl _)))))))))) (by decide +kernel) ?_
      refine KAt.take 8 (Val.extract rfl rfl) rfl rfl rfl rfl (fun w hw => hw.drop (List.Sublist.cons _ (List.Sublist.cons_cons _ (List.Sublist.cons_cons _ (List.Sublist.cons_cons _ (List.Sublist.cons_cons _ (List.Sublist.cons_cons _ (List.Sublist.cons_cons _ (List.Sublist.cons_cons _ (List.Sublist.refl _)))))))))) (by decide +kernel) ?_
      refine KAt.take 9 (Val.assign rfl) rfl rfl rfl rfl (fun w hw => hw.drop (List.Sublist.cons _ (List.Sublist.cons_cons _ (List.Sublist.cons_cons _ (List.Sublist.cons_cons _ (List.Sublist.cons_cons _ (List.Sublist.cons_cons _ (List.Sublist.cons_cons _ (List.Sublist.cons_cons _ (List.Sublist.refl _)))))))))) (by decide +kernel) ?_
      refine KAt.done (by decide +kernel) ?_
      refine At.thenN ?_
      refine tR ?_
      refine tM rfl rfl ?_
      refine At.val (Val.field 0 rfl fo_28_0 rfl) rfl rfl rfl ?_
      refine At.val (Val.load (i := 7) Tryd.isAgg3 rfl rfl rfl) rfl rfl rfl ?_
      refine At.val (Val.field 1 rfl fo_28_1 rfl) rfl rfl rfl ?_
      refine At.val (Val.load (i := 7) Tryd.isAgg3 rfl rfl rfl) rfl rfl rfl ?_
      refine At.val (Val.field 2 rfl fo_28_2 rfl) rfl rfl rfl ?_
      refine At.val (Val.load (i := 7) Tryd.isAgg3 rfl rfl rfl) rfl rfl rfl ?_
      refine At.val (Val.field 3 rfl fo_28_3 rfl) rfl rfl rfl ?_
      refine At.val (Val.load (i := 7) Tryd.isAgg3 rfl rfl rfl) rfl rfl rfl ?_
      first | refine At.val (Val.addI rfl rfl (by omega) (by omega)) rfl rfl rfl ?_ | refine At.val (Val.bin rfl rfl rfl) rfl rfl rfl ?_
      refine At.val (Val.build (fun a ha => by simp only [List.map_toArray, List.map_cons, List.map_nil, ha.eval (x := (.tmp 144)) rfl, ha.eval (x := (.tmp 146)) rfl, ha.eval (x := (.tmp 148)) rfl, ha.eval (x := (.tmp 151)) rfl] <;> rfl) (bld_28_0_1_2_3 _ _ _ _ )) rfl rfl rfl ?_
      refine tM rfl rfl ?_
      refine At.val (Val.build (fun a ha => by simp only [List.map_toArray, List.map_cons, List.map_nil, ha.eval (x := (.tmp 152)) rfl, ha.eval (x := (.tmp 153)) rfl] <;> rfl) (bld_45_0_2 _ _ _ _ _ _ _ )) rfl rfl rfl ?_
      refine At.callNT (g := (fun v => .tuple #[v, .int .i64 30])) (fun w hw => (by have h0 := restore_n _ _ Y P I' C' (4 + I' / 8 + 1) L w (ht.mod hw.mod) (row_rd (hw.row (i := 4) rfl) (by decide)) (row_rd (hw.row (i := 6) rfl) (by decide)) (by first | omega | (simp only [List.length_take, List.length_drop]; omega)) (by omega); rw [restL_no (restE_30 (.inl (by omega))) (by decide), restE_30 (.inl (by omega))] at h0; exact h0)) Tryd.call14 rfl rfl (fun v92 => ?_)
      refine tM rfl rfl ?_
      refine At.val (Val.extract rfl rfl) rfl rfl rfl ?_
      refine At.val (Val.extract rfl rfl) rfl rfl rfl ?_
      refine tA rfl rfl ?_
      refine tE ?_
      refine At.seq ?_
      refine tR ?_
      refine tA rfl rfl ?_
      refine tE ?_
      refine At.block ?_
      skip
      refine At.drop 4 ?_
      simp only [ec0, ecS]
      refine At.drop 3 ?_
      simp only [ec0, ecS]
      refine At.drop 2 ?_
      simp only [ec0, ecS]
      refine At.drop 1 ?_
      simp only [ec0, ecS]
      refine At.drop 0 ?_
      simp only [ec0, ecS]
      refine At.loop (σ := Nat × List UInt8) (fun s => (128 ≤ s.1 ∧ s.1 ≤ 136) ∧ s.2.length = Y.length ∧ ∀ j, 128 ≤ j → j < s.1 → s.2[j]? = some 0) (fun s => [(7, .pointer (some ⟨b2, 0, none⟩)), (8, (.slice A3 ((L).length) c4)), (13, (.slice A89 ((Y).length) c90)), (16, .int .i64 30), (18, .int .i64 30), (19, .int .i64 (s.1 : Int))]) (fun s => [rowR (.slice A89 ((Y).length) c90) 5 1 ((s.2).length) ((s.2).map bv), Dev p5 y7 (σ1), rowR (.slice A3 ((L).length) c4) 51 2 ((L).length) (prS (L)), blk b2 28 ([.int .i64 P, .int .i64 I', .int .i64 C', .int .i64 (4 + I' / 8)])]) (fun s => 136 - s.1) (128, Y) ⟨by dsimp only; omega, rfl, fun j h1 h2 => absurd h2 (by dsimp only; omega)⟩ (Sub.cons rfl (Sub.cons rfl (Sub.cons rfl (Sub.cons rfl (Sub.cons rfl (Sub.cons rfl Sub.nil)))))) (List.Perm.refl _) ?_
      intro s hs
      obtain ⟨k, Z⟩ := s
      dsimp only at hs ⊢
      obtain ⟨⟨hk1, hk2⟩, hZl, hZ⟩ := hs
      refine At.seq ?_
      refine tR ?_
      refine tM rfl rfl ?_
      refine At.val (Val.bin rfl rfl rfl) rfl rfl rfl ?_
      refine tE ?_
      refine At.cond rfl (fun h93 => ?_) (fun h93 => ?_)
      ·skip
       try simp only [hasB, isSizeB, Bool.not_eq_true', Bool.not_eq_false', bne_iff_ne, ne_eq, bne_eq_false_iff_eq, beq_iff_eq, beq_eq_false_iff_ne, decide_eq_true_eq, decide_eq_false_iff_not, gt_iff_lt, ge_iff_le] at h93
       refine At.skipC ?_
       refine At.thenN ?_
       refine At.seq ?_
       refine At.block ?_
       refine At.region ?_
       refine tM rfl rfl ?_
       refine tM rfl rfl ?_
       refine At.val (Val.indexRow (i := 0) k (by omega) Tryd.underlying38 Tryd.sizeOf5 rfl rfl rfl (by omega) (by omega)) rfl rfl rfl ?_
       refine At.storeRowB (i := 0) (c := 0) Tryd.sizeOf5 rfl rfl rfl (by omega) ?_
       simp only [sc0, scS]
       refine At.nil ?_
       refine At.blkN ?_
       refine At.thenN ?_
       refine At.region ?_
       refine tM rfl rfl ?_
       first | refine At.val (Val.addI rfl rfl (by omega) (by omega)) rfl rfl rfl ?_ | refine At.val (Val.bin rfl rfl rfl) rfl rfl rfl ?_
       refine tA rfl rfl ?_
       refine tE ?_
       exact At.again (k + 1, Z.set k 0) ⟨(by dsimp only; omega), (by dsimp only; rw [List.length_set]; exact hZl), set_zeros hk1 (by omega) hZ⟩ (by dsimp only; omega) (Sub.cons rfl (Sub.cons rfl (Sub.cons rfl (Sub.cons rfl (Sub.cons rfl (Sub.cons (congrArg (fun z => some (Value.int IntKind.i64 z)) (by dsimp only; omega)) Sub.nil)))))) (List.Perm.refl _)
      ·skip
       try simp only [hasB, isSizeB, Bool.not_eq_true', Bool.not_eq_false', bne_iff_ne, ne_eq, bne_eq_false_iff_eq, beq_iff_eq, beq_eq_false_iff_ne, decide_eq_true_eq, decide_eq_false_iff_not, gt_iff_lt, ge_iff_le] at h93
       refine At.exitC ?_
       refine At.thenX ?_
       refine At.thenX ?_
       refine At.blkX ?_
       refine At.thenN ?_
       refine tR ?_
       refine tM rfl rfl ?_
       refine At.val (Val.loadAll (i := 3) Tryd.isAgg28 Tryd.sizeOf28 rfl rfl rfl) rfl rfl rfl ?_
       refine tM rfl rfl ?_
       refine At.val (Val.build (fun a ha => by simp only [List.map_toArray, List.map_cons, List.map_nil, ha.eval (x := (.tmp 167)) rfl, ha.eval (x := (.tmp 168)) rfl] <;> rfl) (bld_45_0_2 _ _ _ _ _ _ _ )) rfl rfl rfl ?_
       refine At.callNT (g := (fun v => .tuple #[v, .int .i64 130])) (fun w hw => (by have h0 := restore_n _ _ Z P I' C' (4 + I' / 8) L w (ht.mod hw.mod) (row_rd (hw.row (i := 0) rfl) (by decide)) (row_rd (hw.row (i := 2) rfl) (by decide)) (by first | omega | (simp only [List.length_take, List.length_drop]; omega)) (by omega); rw [restL_no (restE_130 hg (by omega) (cleanT_zeros (fun j h1 h2 => hZ j h1 (by omega)))) (by decide), restE_130 hg (by omega) (cleanT_zeros (fun j h1 h2 => hZ j h1 (by omega)))] at h0; exact h0)) Tryd.call14 rfl rfl (fun v94 => ?_)
       refine tM rfl rfl ?_
       refine At.val (Val.extract rfl rfl) rfl rfl rfl ?_
       refine At.val (Val.extract rfl rfl) rfl rfl rfl ?_
       refine tA rfl rfl ?_
       refine tA rfl rfl ?_
       refine tE ?_
       refine tR ?_
       refine tM rfl rfl ?_
       refine At.val (Val.bin rfl rfl rfl) rfl rfl rfl ?_
       refine tM rfl rfl ?_
       refine At.yes rfl rfl ?_
       refine tM rfl rfl ?_
       refine At.yes rfl rfl ?_
       refine At.val (Val.bin rfl rfl rfl) rfl rfl rfl ?_
       refine At.val (Val.pickT rfl rfl) rfl rfl rfl ?_
       refine tM rfl rfl ?_
       refine At.yes rfl rfl ?_
       refine tM rfl rfl ?_
       refine At.yes rfl rfl ?_
       refine At.val (Val.bin rfl rfl rfl) rfl rfl rfl ?_
       refine At.val (Val.pickT rfl rfl) rfl rfl rfl ?_
       refine tA rfl rfl ?_
       refine tE ?_
       refine At.retC ?_
       refine At.ret1 (.inl rfl) rfl rfl rfl (fun w hw => ?_)
       exact ⟨rfl, hw.mod⟩
end Go.Proofs.YtpihenmdkoojdaaDoor
set_option linter.unusedVariables false
set_option linter.unusedSimpArgs false
namespace Go.Wk
open Go Go.ChangeShapes Go.WideShapes Go.ChangeAt Go.RowKit
section
variable {H : Type} {enc : TypeId × Value → H} {P : Program} {W : World} {r : Reach} {base b0 : Nat} {sp : Nat → Bool} {held : Bool}
theorem each_of {p : Nat → Bool} : ∀ {ts : List TypeId} {ds : List (DataW H)} {i : Nat} {t : TypeId} {d : DataW H}, (DataW.weightsEach P ts ds).all p = true → ts[i]? = some t → ds[i]? = some d → (DataW.weights P t d).all p = true
  | t' :: ts, d' :: ds, 0, t, d, h, ht, hd => by
    simp only [DataW.weightsEach, List.all_append, Bool.and_eq_true] at h
    have e1 : t' = t := by simpa using ht
    have e2 : d' = d := by simpa using hd
    subst e1 e2; exact h.1
  | t' :: ts, d' :: ds, i + 1, t, d, h, ht, hd => by
    simp only [DataW.weightsEach, List.all_append, Bool.and_eq_true] at h
    exact each_of h.2 (by simpa using ht) (by simpa using hd)
  | [], ds, i, t, d, h, ht, hd => by simp at ht
  | t' :: ts, [], i, t, d, h, ht, hd => by simp at hd
/-- What a field's one cell is. -/
structure Fld (enc : TypeId × Value → H) (P : Program) (W : World) (r : Reach) (base b0 : Nat) (sp : Nat → Bool) (held : Bool) (t : TypeId) (c : Value) : Prop where
  ok : Cell.okWide P W r base t c
  read : ∃ fuel x, DataW.trod enc P W b0 sp held fuel t [c] = some x ∧ (DataW.weights P t x.1).all (· ≤ reachBytes) = true
theorem Fld.int {t : TypeId} {c : Value} (u : P.underlying t = some (.int .i64)) (h : Fld enc P W r base b0 sp held t c) : ∃ n, c = .int .i64 n ∧ Fits n := by
  obtain ⟨fuel, x, hf, _⟩ := h.read
  obtain ⟨n, g, _, w⟩ := DataW.trod_int u hf
  exact ⟨n, by simpa using g, has64 (by simpa [Lit.wf, IntKind.has] using w)⟩
theorem Fld.word {t : TypeId} {c : Value} (u : P.underlying t = some (.int .u64)) (h : Fld enc P W r base b0 sp held t c) : ∃ x, c = b64 x := by
  obtain ⟨fuel, x, hf, _⟩ := h.read
  obtain ⟨n, g, _, w⟩ := DataW.trod_int u hf
  obtain ⟨x, rfl⟩ := hasU64 (n := n) (by simpa [Lit.wf, IntKind.has] using w)
  exact ⟨x, by simpa using g⟩
theorem Fld.ints {t e : TypeId} {c : Value} (hu : P.underlying t = some (.slice e)) (he : P.underlying e = some (.int .i64)) (hc : P.cellsOf e = 1) (hby : P.bytesOf e = 8)
    (h : Fld enc P W r base b0 sp held t c) : ∃ L : List Int, RdI W c L ∧ L.length ≤ 17592186044416 ∧ ∀ z ∈ L, Fits z := by
  obtain ⟨fuel, x, hf, hw⟩ := h.read
  exact ints_of hu he hc hby (cell_slice hu h.ok) hf hw
theorem words_of {t e : TypeId} {v : Value} {fuel : Nat} {x : DataW H × List MemPlace} (hu : P.underlying t = some (.slice e)) (he : P.underlying e = some (.int .u64)) (hc : P.cellsOf e = 1) (hby : P.bytesOf e = 8)
    (hok : v = .slice none 0 0 ∨ ∃ b o n c, v = .slice (some ⟨b, o, none⟩) n c ∧ n ≤ c) (hf : DataW.trod enc P W b0 sp held fuel t [v] = some x) (hw : (DataW.weights P t x.1).all (· ≤ reachBytes) = true) :
    ∃ L : List (BitVec 64), RdW W v L ∧ L.length ≤ 17592186044416 := by
  rcases hok with rfl | ⟨b, o, n, c, rfl, hnc⟩
  · exact ⟨[], Rd.nil W 1, by simp⟩
  · rcases open_ints hu he hc hf with ⟨h0, _⟩ | ⟨a, len, cap, zs, h0, _, hl, _, hz, hx, hcell, hwf⟩
    · simp at h0
    · simp only [List.cons.injEq, Value.slice.injEq, Option.some.injEq, and_true] at h0
      obtain ⟨rfl, rfl, rfl⟩ := h0
      have hlen : n ≤ zs.length := by rw [hz]; split <;> omega
      have hln : (zs.take n).length = n := by rw [List.length_take]; omega
      have hxe : x.1 = _ := congrArg Prod.fst hx
      have hdw : zs.length * 8 ≤ reachBytes := by
        have hall := List.all_eq_true.1 hw
        rw [hxe] at hall
        unfold DataW.weights at hall
        rw [hu] at hall
        have := hall _ (List.mem_cons_self ..)
        simp only [decide_eq_true_eq, hby, lits, List.length_map] at this
        rw [← List.length_append, List.take_append_drop] at this
        exact this
      refine ⟨(zs.take n).map (BitVec.ofInt 64), ⟨some ⟨b, o, none⟩, c, by rw [List.length_map, hln], fun j u hj => ?_, by rw [List.length_map, Nat.mul_one], by rw [List.length_map, hln]; exact hnc, (fun h => by cases h), (fun _ a ha => by cases ha; rfl)⟩, ?_⟩
      · rw [List.getElem?_map, List.getElem?_map, List.getElem?_take] at hj
        split at hj
        · rename_i hlt
          refine ⟨b, o, rfl, ?_⟩
          have h1 := hcell j (by omega)
          rw [Addr.add_off] at h1
          rw [h1]
          have hjl : j < zs.length := by omega
          rw [List.getElem?_eq_getElem hjl] at hj
          have hg : zs.getD j 0 = zs[j] := by simp [List.getD, hjl]
          rw [hg]
          obtain ⟨q, hq⟩ := hasU64 (n := zs[j]) (by simpa [Lit.wf, IntKind.has] using hwf _ (List.getElem_mem hjl))
          rw [← hj, hq]; simp
        · cases hj
      · rw [List.length_map, hln]; unfold reachBytes at hdw; omega
theorem Fld.words {t e : TypeId} {c : Value} (hu : P.underlying t = some (.slice e)) (he : P.underlying e = some (.int .u64)) (hc : P.cellsOf e = 1) (hby : P.bytesOf e = 8)
    (h : Fld enc P W r base b0 sp held t c) : ∃ L : List (BitVec 64), RdW W c L ∧ L.length ≤ 17592186044416 := by
  obtain ⟨fuel, x, hf, hw⟩ := h.read
  exact words_of hu he hc hby (cell_slice hu h.ok) hf hw
theorem Fld.bytes {t e : TypeId} {c : Value} (hu : P.underlying t = some (.slice e)) (he : P.underlying e = some (.int .u8)) (hc : P.cellsOf e = 1) (hby : P.bytesOf e = 1)
    (h : Fld enc P W r base b0 sp held t c) : ∃ L : List UInt8, RdB W c L ∧ L.length ≤ 140737488351232 := by
  obtain ⟨fuel, x, hf, hw⟩ := h.read
  have hok := cell_slice hu h.ok
  have hv : c.cells.toList = [c] := by rcases hok with rfl | ⟨_, _, _, _, rfl, _⟩ <;> rfl
  obtain ⟨A, cc, l, rfl, hb, hcc, hm, hz, hp⟩ := arg_byteslice (r := r) (base := base) hu he hc hby (by unfold Value.okWide; rw [hu]; exact h.ok) (⟨fuel, by rw [hv]; exact hf⟩ : DataW.Trod enc P W b0 sp held t c x.1 x.2) hw
  exact ⟨l, Bytes.rd hb hcc hz hp, hm⟩
end
end Go.Wk
set_option linter.unusedVariables false
set_option linter.unusedSimpArgs false
namespace Go.Proofs.YtpihenmdkoojdaaDoor
open Go Go.Wk
open Go.ChangeShapes Go.WideShapes Go.ChangeAt Go.RowKit
section
variable {H : Type} {enc : TypeId × Value → H} {P : Program} {W : World} {r : Reach} {base b0 : Nat} {held : Bool}
theorem all_of {p : Nat → Bool} {e : TypeId} : ∀ {ds : List (DataW H)} {i : Nat} {d : DataW H}, (DataW.weightsAll P e ds).all p = true → ds[i]? = some d → (DataW.weights P e d).all p = true
  | d' :: ds, 0, d, h, hd => by
    simp only [DataW.weightsAll, List.all_append, Bool.and_eq_true] at h
    obtain rfl : d' = d := by simpa using hd
    exact h.1
  | d' :: ds, i + 1, d, h, hd => by
    simp only [DataW.weightsAll, List.all_append, Bool.and_eq_true] at h
    exact all_of h.2 (by simpa using hd)
  | [], i, d, h, hd => by simp at hd
/-- What a cell reads as, wherever it stands. -/
def Fl (enc : TypeId × Value → H) (P : Program) (W : World) (b0 : Nat) (held : Bool) (t : TypeId) (c : Value) : Prop :=
  ∃ fuel x, DataW.trod enc P W b0 (fun _ => true) held fuel t [c] = some x ∧ (DataW.weights P t x.1).all (· ≤ reachBytes) = true
theorem Fl.int {t : TypeId} {c : Value} (u : P.underlying t = some (.int .i64)) (h : Fl enc P W b0 held t c) : ∃ n, c = .int .i64 n ∧ Fits n := by
  obtain ⟨fuel, x, hf, _⟩ := h
  obtain ⟨n, g, _, w⟩ := DataW.trod_int u hf
  exact ⟨n, by simpa using g, has64 (by simpa [Lit.wf, IntKind.has] using w)⟩
theorem Fl.word {t : TypeId} {c : Value} (u : P.underlying t = some (.int .u64)) (h : Fl enc P W b0 held t c) : ∃ x, c = b64 x := by
  obtain ⟨fuel, x, hf, _⟩ := h
  obtain ⟨n, g, _, w⟩ := DataW.trod_int u hf
  obtain ⟨x, rfl⟩ := hasU64 (n := n) (by simpa [Lit.wf, IntKind.has] using w)
  exact ⟨x, by simpa using g⟩
theorem Fl.nums {t e : TypeId} {k : IntKind} {c : Value} (hu : P.underlying t = some (.slice e)) (he : P.underlying e = some (.int k)) (hc : P.cellsOf e = 1) (h : Fl enc P W b0 held t c) :
    ∃ zs : List Int, Rd W c 1 zs.length (zs.map (Value.int k)) ∧ zs.length * P.bytesOf e ≤ reachBytes ∧ ∀ z ∈ zs, (Lit.int k z).wf = true := by
  obtain ⟨fuel, x, hf, hw⟩ := h
  rcases open_ints hu he hc hf with ⟨h0, _⟩ | ⟨a, len, cap, zs, h0, _, hl, _, hz, hx, hcell, hwf⟩
  · obtain rfl : c = .slice none 0 0 := by simpa using h0
    exact ⟨[], Rd.nil W 1, by simp, by simp⟩
  · obtain rfl : c = .slice (some a) len cap := by simpa using h0
    simp only [if_true] at hz
    have hxe : x.1 = _ := congrArg Prod.fst hx
    have hdw : zs.length * P.bytesOf e ≤ reachBytes := by
      have hall := List.all_eq_true.1 hw
      rw [hxe] at hall
      unfold DataW.weights at hall
      rw [hu] at hall
      have := hall _ (List.mem_cons_self ..)
      simp only [decide_eq_true_eq, lits, List.length_map] at this
      rw [← List.length_append, List.take_append_drop] at this
      exact this
    have hln : (zs.take len).length = len := by rw [List.length_take]; omega
    have hsp : ∀ j, j < zs.length → a.spot = none := fun j hj => by
      have := World.cell?_spot (hcell 0 (by omega))
      simpa [Addr.add] using this
    refine ⟨zs.take len, ⟨some a, cap, by rw [hln], fun j u hj => ?_, by rw [List.length_map, Nat.mul_one], by omega, (fun h => by cases h), (fun hc0 a' ha => by cases ha; exact hsp 0 (by omega))⟩, Nat.le_trans (Nat.mul_le_mul_right _ (by omega)) hdw, fun z hm => hwf z (List.mem_of_mem_take hm)⟩
    rw [List.getElem?_map, List.getElem?_take] at hj
    split at hj
    · rename_i hlt
      have hjl : j < zs.length := by omega
      have hs := hsp j hjl
      obtain ⟨b, o, s⟩ := a
      have hs' : s = none := hs
      subst hs'
      refine ⟨b, o, rfl, ?_⟩
      have h1 := hcell j hjl
      rw [Addr.add_off] at h1
      rw [h1, ← hj, List.getElem?_eq_getElem hjl]
      simp [List.getD, hjl]
    · cases hj
theorem Fl.ints {t e : TypeId} {c : Value} (hu : P.underlying t = some (.slice e)) (he : P.underlying e = some (.int .i64)) (hc : P.cellsOf e = 1) (hby : P.bytesOf e = 8) (h : Fl enc P W b0 held t c) :
    ∃ L : List Int, RdI W c L ∧ L.length ≤ 17592186044416 := by
  obtain ⟨zs, h1, h2, _⟩ := Fl.nums hu he hc h
  rw [hby] at h2
  unfold reachBytes at h2
  exact ⟨zs, h1, by omega⟩
theorem Fl.bytes {t e : TypeId} {c : Value} (hu : P.underlying t = some (.slice e)) (he : P.underlying e = some (.int .u8)) (hc : P.cellsOf e = 1) (hby : P.bytesOf e = 1) (h : Fl enc P W b0 held t c) :
    ∃ L : List UInt8, RdB W c L ∧ L.length ≤ 140737488355328 := by
  obtain ⟨zs, h1, h2, h3⟩ := Fl.nums hu he hc h
  rw [hby] at h2
  unfold reachBytes at h2
  have he : zs.map (Value.int .u8) = (zs.map (fun z => UInt8.ofNat z.toNat)).map bv := by
    rw [List.map_map]
    refine List.map_congr_left fun z hz => ?_
    obtain ⟨q, rfl⟩ := hasU8 (n := z) (by simpa [Lit.wf, IntKind.has] using h3 z hz)
    simp [bv]
  refine ⟨zs.map (fun z => UInt8.ofNat z.toNat), ?_, by rw [List.length_map]; omega⟩
  unfold RdB
  rw [List.length_map, ← he]
  exact h1
/-- What a list of elements holds, element by element. -/
theorem elems_of {t e : TypeId} {v : Value} {fuel n : Nat} {x : DataW H × List MemPlace} (hu : P.underlying t = some (.slice e)) (hc : P.cellsOf e = n)
    (hf : DataW.trod enc P W b0 (fun _ => true) held fuel t [v] = some x) (hw : (DataW.weights P t x.1).all (· ≤ reachBytes) = true) :
    v = .slice none 0 0 ∨ ∃ a len cap, v = .slice (some a) len cap ∧ len ≤ cap ∧ len * P.bytesOf e ≤ reachBytes ∧ ∀ i, i < len → ∃ cs fuel y, cs.length = n ∧ (∀ j, j < n → W.cell? ((a.add (i * n)).add j) = cs[j]?) ∧ DataW.trod enc P W b0 (fun _ => true) held fuel e cs = some y ∧ (DataW.weights P e y.1).all (· ≤ reachBytes) = true := by
  rcases DataW.trod_slice hu hf with ⟨h0, _⟩ | ⟨a, len, cap, elems, rest, m, _, h0, rfl, hb, hl, hm, hlen, hel, hsp, hns⟩
  · left; simpa using h0
  · right
    refine ⟨a, len, cap, by simpa using h0, hl, ?_, fun i hi => ?_⟩
    · have hall := List.all_eq_true.1 hw
      unfold DataW.weights at hall
      rw [hu] at hall
      have := hall _ (List.mem_cons_self ..)
      simp only [decide_eq_true_eq, List.length_map, hlen] at this
      exact Nat.le_trans (Nat.mul_le_mul_right _ (Nat.le_add_right _ _)) this
    · have h1 := hel i hi
      rw [hc, List.getElem?_eq_getElem (by omega), Option.bind_eq_some_iff] at h1
      obtain ⟨cs, h2, h3⟩ := h1
      have h4 := World.cells?_some h2
      refine ⟨cs, m, _, h4.2.1, h4.2.2, h3, ?_⟩
      · unfold DataW.weights at hw
        rw [hu] at hw
        simp only [List.all_cons, List.all_append, Bool.and_eq_true] at hw
        exact all_of (i := i) hw.2.1 (by rw [List.getElem?_map, List.getElem?_eq_getElem (show i < elems.length by omega)]; rfl)
end
section
variable {H : Type} {enc : TypeId × Value → H} {P : Program} {W : World} {base b0 : Nat} {held : Bool}
/-- What cells in a row read as. -/
def FlL (enc : TypeId × Value → H) (P : Program) (W : World) (b0 : Nat) (held : Bool) (t : TypeId) (cs : List Value) : Prop :=
  ∃ fuel x, DataW.trod enc P W b0 (fun _ => true) held fuel t cs = some x ∧ (DataW.weights P t x.1).all (· ≤ reachBytes) = true
theorem flL_field {t u : TypeId} {fs : Array Field} {cs : List Value} {i o n : Nat} {f : Field} (ht : P.underlying t = some (.struct fs)) (h : FlL enc P W b0 held t cs) (hfi : fs[i]? = some f) (ho : f.offset = o) (hu : f.type = u) (hn : P.cellsOf u = n) : FlL enc P W b0 held u ((cs.drop o).take n) := by
  obtain ⟨fuel, x, hf, hw⟩ := h
  obtain ⟨xs, m, rfl, hx, _, hsz, hfl⟩ := DataW.trod_struct ht hf
  have h1 := hfl i f hfi
  rw [ho, hu, hn] at h1
  have hil : i < fs.size := (Array.getElem?_eq_some_iff.1 hfi).1
  have hxl : i < xs.length := by rw [hsz]; exact hil
  rw [List.getElem?_eq_getElem hxl] at h1
  refine ⟨m, _, h1, ?_⟩
  have hxe : x.1 = _ := congrArg Prod.fst hx
  rw [hxe] at hw
  unfold DataW.weights at hw
  rw [ht] at hw
  refine each_of hw (i := i) ?_ (by rw [List.getElem?_map, List.getElem?_eq_getElem hxl]; rfl)
  rw [List.getElem?_map, Array.getElem?_toList, hfi]
  exact congrArg some hu
theorem slice_spot {t e : TypeId} {fuel n len cap : Nat} {a : Addr} {x : DataW H × List MemPlace} (hu : P.underlying t = some (.slice e)) (hc : P.cellsOf e = n) (hn : 0 < n) (hf : DataW.trod enc P W b0 (fun _ => true) held fuel t [.slice (some a) len cap] = some x) (h0 : 0 < cap) : a.spot = none := by
  rcases DataW.trod_slice hu hf with ⟨h, _⟩ | ⟨a', len', cap', elems, rest, m, _, h1, rfl, hb, hl, hm, hlen, hel, hsp, hns⟩
  · simp at h
  · simp only [List.cons.injEq, Value.slice.injEq, Option.some.injEq, and_true] at h1
    obtain ⟨rfl, rfl, rfl⟩ := h1
    have key : ∀ y, (W.cells? b0 (a.add (0 * P.cellsOf e)) (P.cellsOf e)).bind (DataW.trod enc P W b0 (fun _ => true) held m e) = some y → a.spot = none := fun y hy => by
      rw [hc, Option.bind_eq_some_iff] at hy
      obtain ⟨cs, h2, _⟩ := hy
      have h4 := World.cells?_some h2
      have h5 := h4.2.2 0 hn
      rw [List.getElem?_eq_getElem (by rw [h4.2.1]; exact hn)] at h5
      have := World.cell?_spot h5
      simpa [Addr.add] using this
    rcases Nat.eq_zero_or_pos len with h | h
    · obtain ⟨g1, g2⟩ := hsp rfl
      have g3 := g2 0 (by omega)
      obtain ⟨y, hy⟩ : ∃ y, rest[0]? = some y := ⟨_, List.getElem?_eq_getElem (by omega)⟩
      rw [hy, h, Nat.zero_add] at g3
      exact key _ g3
    · have g3 := hel 0 h
      rw [List.getElem?_eq_getElem (by omega)] at g3
      exact key _ g3
theorem Fl.spans {t e ti : TypeId} {fs : Array Field} {f0 f1 : Field} {c : Value} (hu : P.underlying t = some (.slice e)) (he : P.underlying e = some (.struct fs)) (hc : P.cellsOf e = 2) (hby : P.bytesOf e = 16)
    (hf0 : fs[0]? = some f0) (hf1 : fs[1]? = some f1) (o0 : f0.offset = 0) (o1 : f1.offset = 1) (t0 : f0.type = ti) (t1 : f1.type = ti) (ui : P.underlying ti = some (.int .i64)) (ci : P.cellsOf ti = 1) (h : Fl enc P W b0 held t c) :
    ∃ L : List (Int × Int), RdS W c L ∧ L.length ≤ 8796093022144 := by
  obtain ⟨fuel, x, hf, hw⟩ := h
  rcases elems_of (n := 2) hu hc hf hw with rfl | ⟨a, len, cap, rfl, hlc, hb, hel⟩
  · exact ⟨[], Rd.nil W 2, by simp⟩
  · rw [hby] at hb
    unfold reachBytes at hb
    obtain ⟨L, hLl, hL⟩ := choose_list' (Q := fun j (z : Int × Int) => W.cell? ((a.add (j * 2)).add 0) = some (.int .i64 z.1) ∧ W.cell? ((a.add (j * 2)).add 1) = some (.int .i64 z.2)) len (fun j hj => by
      obtain ⟨cs, fu, y, h1, h2, h3, h4⟩ := hel j hj
      obtain ⟨c0, c1, rfl⟩ : ∃ c0 c1, cs = [c0, c1] := by match cs, h1 with | [c0, c1], _ => exact ⟨c0, c1, rfl⟩
      obtain ⟨n0, rfl, _⟩ := Fl.int ui (flL_field he ⟨fu, y, h3, h4⟩ hf0 o0 t0 ci)
      obtain ⟨n1, rfl, _⟩ := Fl.int ui (flL_field he ⟨fu, y, h3, h4⟩ hf1 o1 t1 ci)
      exact ⟨(n0, n1), h2 0 (by decide), h2 1 (by decide)⟩)
    subst hLl
    have hsp : 0 < cap → a.spot = none := slice_spot hu hc (by decide) hf
    refine ⟨L, ⟨some a, cap, rfl, fun j u hj => ?_, prS_length L, hlc, (fun h => by cases h), (fun hc0 a' ha => by cases ha; exact hsp hc0)⟩, by omega⟩
    have hjl : j < L.length * 2 := by rw [← prS_length L]; exact (List.getElem?_eq_some_iff.1 hj).1
    have hq : L[j / 2]? = some (L[j / 2]'(by omega)) := List.getElem?_eq_getElem _
    have hz := hL (j / 2) _ hq
    have hp := prS_at hq
    have hs := hsp (by omega)
    obtain ⟨b, o, s⟩ := a
    have hs' : s = none := hs
    subst hs'
    refine ⟨b, o, rfl, ?_⟩
    rcases Nat.mod_two_eq_zero_or_one j with hm | hm
    · have e : j / 2 * 2 = j := by omega
      rw [e] at hp hz
      rw [hj] at hp
      rw [Option.some.inj hp.1]
      have := hz.1
      rwa [Addr.add_off, Addr.add_off, Nat.add_zero] at this
    · have e : j / 2 * 2 + 1 = j := by omega
      rw [e] at hp
      rw [hj] at hp
      rw [Option.some.inj hp.2]
      have := hz.2
      rwa [Addr.add_off, Addr.add_off, Nat.add_assoc, e] at this
end
section
variable {H : Type} {enc : TypeId × Value → H} {P : Program} {W : World} {base b0 : Nat} {held : Bool}
theorem Fl.bools {t e : TypeId} {c : Value} (hu : P.underlying t = some (.slice e)) (he : P.underlying e = some .bool) (hc : P.cellsOf e = 1) (hby : P.bytesOf e = 1) (h : Fl enc P W b0 held t c) :
    ∃ L : List Bool, Rd W c 1 L.length (L.map Value.bool) ∧ L.length ≤ 140737488355328 := by
  obtain ⟨fuel, x, hf, hw⟩ := h
  rcases elems_of (n := 1) hu hc hf hw with rfl | ⟨a, len, cap, rfl, hlc, hb, hel⟩
  · exact ⟨[], Rd.nil W 1, by simp⟩
  · rw [hby] at hb
    unfold reachBytes at hb
    obtain ⟨L, hLl, hL⟩ := choose_list' (Q := fun j (z : Bool) => W.cell? ((a.add (j * 1)).add 0) = some (.bool z)) len (fun j hj => by
      obtain ⟨cs, fu, y, h1, h2, h3, h4⟩ := hel j hj
      obtain ⟨c0, rfl⟩ : ∃ c0, cs = [c0] := by match cs, h1 with | [c0], _ => exact ⟨c0, rfl⟩
      obtain ⟨b, g, _⟩ := DataW.trod_bool he h3
      obtain rfl : c0 = .bool b := by simpa using g
      exact ⟨b, h2 0 (by decide)⟩)
    subst hLl
    have hsp : 0 < cap → a.spot = none := slice_spot hu hc (by decide) hf
    refine ⟨L, ⟨some a, cap, rfl, fun j u hj => ?_, by rw [List.length_map, Nat.mul_one], hlc, (fun h => by cases h), (fun hc0 a' ha => by cases ha; exact hsp hc0)⟩, by omega⟩
    have hjl : j < L.length := by have := (List.getElem?_eq_some_iff.1 hj).1; rwa [List.length_map] at this
    have hq : L[j]? = some (L[j]'hjl) := List.getElem?_eq_getElem _
    have hz := hL j _ hq
    rw [List.getElem?_map, hq] at hj
    obtain rfl := Option.some.inj hj
    have hs := hsp (by omega)
    obtain ⟨b, o, s⟩ := a
    have hs' : s = none := hs
    subst hs'
    refine ⟨b, o, rfl, ?_⟩
    rwa [Addr.add_off, Addr.add_off, Nat.add_zero, Nat.mul_one] at hz
theorem Fl.pairs {t e ti tu : TypeId} {fs : Array Field} {f0 f1 : Field} {c : Value} (hu : P.underlying t = some (.slice e)) (he : P.underlying e = some (.struct fs)) (hc : P.cellsOf e = 2) (hby : P.bytesOf e = 16)
    (hf0 : fs[0]? = some f0) (hf1 : fs[1]? = some f1) (o0 : f0.offset = 0) (o1 : f1.offset = 1) (t0 : f0.type = ti) (t1 : f1.type = tu) (ui : P.underlying ti = some (.int .i64)) (uu : P.underlying tu = some (.int .u64)) (ci : P.cellsOf ti = 1) (cu : P.cellsOf tu = 1) (h : Fl enc P W b0 held t c) :
    ∃ L : List (Int × BitVec 64), RdP W c L ∧ L.length ≤ 8796093022208 := by
  obtain ⟨fuel, x, hf, hw⟩ := h
  rcases elems_of (n := 2) hu hc hf hw with rfl | ⟨a, len, cap, rfl, hlc, hb, hel⟩
  · exact ⟨[], Rd.nil W 2, by simp⟩
  · rw [hby] at hb
    unfold reachBytes at hb
    obtain ⟨L, hLl, hL⟩ := choose_list' (Q := fun j (z : Int × BitVec 64) => W.cell? ((a.add (j * 2)).add 0) = some (.int .i64 z.1) ∧ W.cell? ((a.add (j * 2)).add 1) = some (b64 z.2)) len (fun j hj => by
      obtain ⟨cs, fu, y, h1, h2, h3, h4⟩ := hel j hj
      obtain ⟨c0, c1, rfl⟩ : ∃ c0 c1, cs = [c0, c1] := by match cs, h1 with | [c0, c1], _ => exact ⟨c0, c1, rfl⟩
      obtain ⟨n0, rfl, _⟩ := Fl.int ui (flL_field he ⟨fu, y, h3, h4⟩ hf0 o0 t0 ci)
      obtain ⟨n1, rfl⟩ := Fl.word uu (flL_field he ⟨fu, y, h3, h4⟩ hf1 o1 t1 cu)
      exact ⟨(n0, n1), h2 0 (by decide), h2 1 (by decide)⟩)
    subst hLl
    have hsp : 0 < cap → a.spot = none := slice_spot hu hc (by decide) hf
    refine ⟨L, ⟨some a, cap, rfl, fun j u hj => ?_, prC_length L, hlc, (fun h => by cases h), (fun hc0 a' ha => by cases ha; exact hsp hc0)⟩, by omega⟩
    have hjl : j < L.length * 2 := by rw [← prC_length L]; exact (List.getElem?_eq_some_iff.1 hj).1
    have hq : L[j / 2]? = some (L[j / 2]'(by omega)) := List.getElem?_eq_getElem _
    have hz := hL (j / 2) _ hq
    have hp := prC_at hq
    have hs := hsp (by omega)
    obtain ⟨b, o, s⟩ := a
    have hs' : s = none := hs
    subst hs'
    refine ⟨b, o, rfl, ?_⟩
    rcases Nat.mod_two_eq_zero_or_one j with hm | hm
    · have e : j / 2 * 2 = j := by omega
      rw [e] at hp hz
      rw [hj] at hp
      rw [Option.some.inj hp.1]
      have := hz.1
      rwa [Addr.add_off, Addr.add_off, Nat.add_zero] at this
    · have e : j / 2 * 2 + 1 = j := by omega
      rw [e] at hp
      rw [hj] at hp
      rw [Option.some.inj hp.2]
      have := hz.2
      rwa [Addr.add_off, Addr.add_off, Nat.add_assoc, e] at this
end
section
variable {H : Type} {enc : TypeId × Value → H} {W : World} {base b0 : Nat} {held : Bool}
set_option maxRecDepth 100000 in
theorem arg_case {r : Reach} {v : Value} {d : DataW H} {ps : List MemPlace} (h : Value.okWide Tryd.prog W r base 26 v) (hd : DataW.Trod enc Tryd.prog W b0 (fun _ => true) held 26 v d ps) (hw : (DataW.weights Tryd.prog 26 d).all (· ≤ reachBytes) = true) :
    ∃ (pg ino co lf : Int) (vM vW vL : Value) (MS : List Bool) (WS : List (Int × BitVec 64)) (cs : List Int), v = .agg #[.int .i64 pg, .int .i64 ino, .int .i64 co, vM, vW, .int .i64 lf, vL] ∧ Rd W vM 1 MS.length (MS.map Value.bool) ∧ MS.length ≤ 140737488355328 ∧ RdP W vW WS ∧ WS.length ≤ 8796093022208 ∧ RdI W vL cs ∧ cs.length ≤ 17592186044416 ∧ (-9223372036854775808 ≤ lf ∧ lf ≤ 9223372036854775807) := by
  obtain ⟨fuel, hf⟩ := hd
  have U := Tryd.underlying26
  obtain ⟨cs, rfl, hl, _⟩ := arg_struct U h
  rw [show Tryd.prog.cellsOf 26 = 7 by kernel_rfl] at hl
  have hcs : (Value.agg cs.toArray).cells.toList = cs := by simp [Value.cells]
  rw [hcs] at hf
  obtain ⟨c0, c1, c2, c3, c4, c5, c6, rfl⟩ : ∃ c0 c1 c2 c3 c4 c5 c6, cs = [c0, c1, c2, c3, c4, c5, c6] := by
    match cs, hl with
    | [c0, c1, c2, c3, c4, c5, c6], _ => exact ⟨c0, c1, c2, c3, c4, c5, c6, rfl⟩
  have hr : FlL enc Tryd.prog W b0 held 26 [c0, c1, c2, c3, c4, c5, c6] := ⟨fuel, _, hf, hw⟩
  obtain ⟨pg, rfl, _⟩ := Fl.int Tryd.underlying3 (flL_field (i := 0) (o := 0) (n := 1) (u := 3) U hr rfl rfl rfl (by kernel_rfl))
  obtain ⟨ino, rfl, _⟩ := Fl.int Tryd.underlying3 (flL_field (i := 1) (o := 1) (n := 1) (u := 3) U hr rfl rfl rfl (by kernel_rfl))
  obtain ⟨co, rfl, _⟩ := Fl.int Tryd.underlying3 (flL_field (i := 2) (o := 2) (n := 1) (u := 3) U hr rfl rfl rfl (by kernel_rfl))
  obtain ⟨lM, hM, hMl⟩ := Fl.bools Tryd.underlying22 Tryd.underlying4 (by kernel_rfl) (by kernel_rfl) (flL_field (i := 3) (o := 3) (n := 1) (u := 22) U hr rfl rfl rfl (by kernel_rfl))
  obtain ⟨lW, hW, hWl⟩ := Fl.pairs (ti := 3) (tu := 65) Tryd.underlying23 Tryd.underlying67 (by kernel_rfl) (by kernel_rfl) rfl rfl rfl rfl rfl rfl Tryd.underlying3 Tryd.underlying65 (by kernel_rfl) (by kernel_rfl) (flL_field (i := 4) (o := 4) (n := 1) (u := 23) U hr rfl rfl rfl (by kernel_rfl))
  obtain ⟨lf, rfl, hlf⟩ := Fl.int Tryd.underlying3 (flL_field (i := 5) (o := 5) (n := 1) (u := 3) U hr rfl rfl rfl (by kernel_rfl))
  obtain ⟨lI, hI, hIl⟩ := Fl.ints Tryd.underlying24 Tryd.underlying3 (by kernel_rfl) (by kernel_rfl) (flL_field (i := 6) (o := 6) (n := 1) (u := 24) U hr rfl rfl rfl (by kernel_rfl))
  exact ⟨pg, ino, co, lf, c3, c4, c6, lM, lW, lI, rfl, hM, hMl, hW, hWl, hI, hIl, hlf⟩
end
end Go.Proofs.YtpihenmdkoojdaaDoor
