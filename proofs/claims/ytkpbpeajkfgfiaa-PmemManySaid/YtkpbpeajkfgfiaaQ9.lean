/- PmemMany: the walk. -/
import Derived.Test.YtkpbpeajkfgfiaaQ6
import Derived.Test.YtkpbpeajkfgfiaaP12
set_option linter.unusedVariables false
set_option linter.unusedSimpArgs false
namespace Go.Proofs.Ytkpbpeajkfgfiaa
open Go Go.Wk

theorem storesE_rest : ∀ (l : List (BitVec 64)) (k : Nat) (σ : Ds), k + l.length ≤ σ.ws.length → (storesE k σ l).2.ws.length = σ.ws.length ∧ (storesE k σ l).2.steps ≤ σ.steps + l.length ∧ (σ.armed = false → (storesE k σ l).1 = 0 ∧ (storesE k σ l).2.armed = false)
  | [], k, σ, _ => ⟨rfl, Nat.le_refl _, fun h => ⟨rfl, h⟩⟩
  | x :: l, k, σ, h => by
    rw [List.length_cons] at h
    cases hd : deadB σ with
    | true =>
      rw [storesE_dead hd]
      exact ⟨rfl, Nat.le_add_right _ _, fun ha => by rw [dead_of ha] at hd; cases hd⟩
    | false =>
      rw [storesE_live hd]
      obtain ⟨h1, h2, h3⟩ := storeD_rest (σ := σ) x (show k < σ.ws.length by omega)
      obtain ⟨g1, g2, g3⟩ := storesE_rest l (k + 1) (storeD σ k x) (by omega)
      exact ⟨g1.trans h3, by rw [List.length_cons]; omega, fun ha => g3 (h2.trans ha)⟩
theorem linesE_rest : ∀ (c l : Nat) (σ : Ds), (linesE l σ c).2.ws.length = σ.ws.length ∧ (linesE l σ c).2.steps ≤ σ.steps + c ∧ (σ.armed = false → (linesE l σ c).1 = 0 ∧ (linesE l σ c).2.armed = false)
  | 0, l, σ => ⟨rfl, Nat.le_refl _, fun h => ⟨rfl, h⟩⟩
  | c + 1, l, σ => by
    cases hd : deadB σ with
    | true =>
      rw [linesE_dead hd]
      exact ⟨rfl, Nat.le_add_right _ _, fun ha => by rw [dead_of ha] at hd; cases hd⟩
    | false =>
      rw [linesE_live hd]
      obtain ⟨h1, h2, h3⟩ := lineD_rest σ l
      obtain ⟨g1, g2, g3⟩ := linesE_rest c (l + 1) (lineD σ l)
      exact ⟨g1.trans h3, by omega, fun ha => g3 (h2.trans ha)⟩
theorem Rep.offRow {w0 w : World} {S : Nat → Prop} {H : List Res} {i j : Nat} {r : Res} {v : Value} {e sz n : Nat} {xs : List Value} (hw : Rep w0 S H w) (hi : H[i]? = some (rowR v e sz n xs)) (hj : H[j]? = some r) (hij : i ≠ j) : Off v xs (feet [r]) := fun _ b o s n c hv ⟨q, hq, hb⟩ => by
  rw [List.mem_singleton.1 hq] at hb
  have hi' := List.getElem?_eq_some_iff.1 hi
  have hj' := List.getElem?_eq_some_iff.1 hj
  have hp := List.pairwise_iff_getElem.1 hw.sep
  have hf : (rowR v e sz n xs : Res).foot b := by subst hv; rfl
  rcases Nat.lt_or_gt_of_ne hij with h | h
  · have := hp i j hi'.1 hj'.1 h
    rw [hi'.2, hj'.2] at this
    exact this b hf hb
  · have := hp j i hj'.1 hi'.1 h
    rw [hi'.2, hj'.2] at this
    exact this b hb hf
theorem rdW_take {w : World} {A : Option Addr} {c h : Nat} {l : List (BitVec 64)} (hr : RdW w (.slice A l.length c) l) (hh : h ≤ l.length) : RdW w (.slice (cutA A c 0 1) (h - 0) (c - 0)) (l.take h) := by
  obtain ⟨A', c', e, g2, g3, g4, g5, g6⟩ := hr
  simp only [Value.slice.injEq, true_and] at e
  obtain ⟨rfl, rfl⟩ := e
  have hA : cutA A c 0 1 = A := by
    cases A with
    | none => rfl
    | some a => obtain ⟨b, o, s⟩ := a; unfold cutA; simp
  rw [hA, Nat.sub_zero, Nat.sub_zero]
  refine ⟨A, c, by rw [List.length_take, Nat.min_eq_left hh], fun j u hj => ?_, by rw [List.length_map, Nat.mul_one], by rw [List.length_take]; omega, fun e => ?_, g6⟩
  · rw [List.map_take, List.getElem?_take] at hj
    split at hj
    · exact g2 j u hj
    · cases hj
  · obtain ⟨h1, h2⟩ := g5 e
    exact ⟨by rw [List.length_take]; omega, h2⟩
def fuseI' (z : Int) : Int := if z < 0 then -(z + 1) else z

theorem lawMany_p (pg a fr ct lf : Int) (v : Value) (ws0 : List (BitVec 64)) (w : World) (hv : RdW w v ws0) (hl0 : ws0.length ≤ 17592186044416) (hct : -9223372036854775808 ≤ ct ∧ ct ≤ 9223372036854775807) :
    PureC Try.prog 9 [.agg #[.int .i64 pg, .int .i64 a, v, .int .i64 fr, .int .i64 ct, .int .i64 lf]] (.bool true) w := by
 obtain ⟨A, cw, rfl⟩ : ∃ A c, v = .slice A ws0.length c := by obtain ⟨A, c, h, _⟩ := hv; exact ⟨A, c, h⟩
 refine enter0 Try.func9 rfl Try.ntmps9 rfl ?_
 obtain ⟨N, hNe⟩ : ∃ N, N = sizeW pg := ⟨_, rfl⟩
 obtain ⟨hN1, hN2, hN3⟩ := sizeW_ok pg
 have hsz := sizeW_size pg
 rw [← hNe] at hN1 hN2 hN3 hsz
 have hN0 : 0 < N := by omega
 obtain ⟨K, hKe⟩ : ∃ K, K = wordI a N := ⟨_, rfl⟩
 have hK := wordI_lt a hN0
 rw [← hKe] at hK
 obtain ⟨F, hFe⟩ : ∃ F, F = wordI fr (8 * N) := ⟨_, rfl⟩
 have hF := wordI_lt fr (N := 8 * N) (by omega)
 rw [← hFe] at hF
 simp only [envOf]
 refine tR ?_
 refine At.box rfl rfl rfl (fun b1 => ?_)
 refine tA rfl rfl ?_
 refine tE ?_
 refine tR ?_
 refine At.val (Val.field 0 rfl fo_69_0 rfl) rfl rfl rfl ?_
 refine At.val (Val.load (i := 0) Try.isAgg3 rfl rfl rfl) rfl rfl rfl ?_
 refine At.callP (fun w hw => size_p _ w) Try.call18 rfl rfl ?_
 refine tA rfl rfl ?_
 refine At.nil ?_
 rw [← hNe]
 refine At.thenN ?_
 refine tR ?_
 refine tM rfl rfl ?_
 refine At.callNB (fun w hw => made_d _ N w hsz rfl) Try.call19 rfl rfl (fun p2 y3 => ?_)
 refine tM rfl rfl ?_
 refine At.val (Val.extract rfl rfl) rfl rfl rfl ?_
 refine At.val (Val.extract rfl rfl) rfl rfl rfl ?_
 refine tA rfl rfl ?_
 refine tA rfl rfl ?_
 refine tE ?_
 refine tR ?_
 refine tM rfl rfl ?_
 refine At.callNB (fun w hw => made_d _ N w hsz rfl) Try.call19 rfl rfl (fun p4 y5 => ?_)
 refine tM rfl rfl ?_
 refine At.val (Val.extract rfl rfl) rfl rfl rfl ?_
 refine At.val (Val.extract rfl rfl) rfl rfl rfl ?_
 refine tA rfl rfl ?_
 refine tA rfl rfl ?_
 refine tE ?_
 refine At.seq ?_
 refine tR ?_
 refine tM rfl rfl ?_
 refine At.val (Val.not rfl) rfl rfl rfl ?_
 refine tM rfl rfl ?_
 refine At.yes rfl rfl ?_
 refine tM rfl rfl ?_
 refine At.yes rfl rfl ?_
 refine At.val (Val.not rfl) rfl rfl rfl ?_
 refine At.val (Val.pickF rfl rfl) rfl rfl rfl ?_
 refine tE ?_
 refine At.condF rfl ?_
 refine At.skipC ?_
 refine At.thenN ?_
 refine tR ?_
 refine At.val (Val.field 1 rfl fo_69_1 rfl) rfl rfl rfl ?_
 refine At.val (Val.load (i := 2) Try.isAgg3 rfl rfl rfl) rfl rfl rfl ?_
 refine tM rfl rfl ?_
 refine At.callP (fun w hw => word_p _ _ w (by omega) (by omega)) Try.call23 rfl rfl ?_
 refine tA rfl rfl ?_
 refine At.nil ?_
 rw [← hKe]
 refine At.thenN ?_
 refine tR ?_
 refine At.val (Val.field 2 rfl fo_69_2 rfl) rfl rfl rfl ?_
 refine At.val (Val.load (i := 2) Try.isAgg36 rfl rfl rfl) rfl rfl rfl ?_
 refine tA rfl rfl ?_
 refine tE ?_
 refine At.join (σ := Value × List (BitVec 64)) (fun s => RdW w s.1 s.2 ∧ s.2.length ≤ N - K) (fun s => [(1, .pointer (some ⟨b1, 0, none⟩)), (3, .int .i64 (8 * (N : Int))), (4, .pointer (some ⟨p2, 0, none⟩)), (6, .pointer (some ⟨p4, 0, none⟩)), (8, .int .i64 (8 * (K : Int))), (9, s.1)]) (fun s => [Dev p4 y5 (zeroD N), Dev p2 y3 (zeroD N), blk b1 69 ([.int .i64 pg, .int .i64 a, .slice A ws0.length cw, .int .i64 fr, .int .i64 ct, .int .i64 lf])]) ?_ ?_
 ·skip
  refine tR ?_
  refine tM rfl rfl ?_
  refine At.val (Val.lenRd hv Try.underlying36 rfl) rfl rfl rfl ?_
  refine tM rfl rfl ?_
  refine tM rfl rfl ?_
  first | refine At.val (Val.subI rfl rfl (by omega) (by omega)) rfl rfl rfl ?_ | refine At.val (Val.bin rfl rfl rfl) rfl rfl rfl ?_
  refine At.val (Val.quoI rfl rfl (by omega) (by omega) (by decide)) rfl rfl rfl ?_
  rw [show (8 * (N : Int) - 8 * (K : Int)) / 8 = ((N - K : Nat) : Int) from by omega]
  refine At.val (Val.bin rfl rfl rfl) rfl rfl rfl ?_
  refine tE ?_
  refine At.cond rfl (fun h6 => ?_) (fun h6 => ?_)
  ·skip
   try simp only [hasB, isSizeB, Bool.not_eq_true', Bool.not_eq_false', bne_iff_ne, ne_eq, bne_eq_false_iff_eq, beq_iff_eq, beq_eq_false_iff_ne, decide_eq_true_eq, decide_eq_false_iff_not, gt_iff_lt, ge_iff_le] at h6
   refine At.region ?_
   refine tM rfl rfl ?_
   refine tM rfl rfl ?_
   refine tM rfl rfl ?_
   first | refine At.val (Val.subI rfl rfl (by omega) (by omega)) rfl rfl rfl ?_ | refine At.val (Val.bin rfl rfl rfl) rfl rfl rfl ?_
   refine At.val (Val.quoI rfl rfl (by omega) (by omega) (by decide)) rfl rfl rfl ?_
   rw [show (8 * (N : Int) - 8 * (K : Int)) / 8 = ((N - K : Nat) : Int) from by omega]
   refine At.val (Val.cutRd (l := 0) (h := N - K) hv Try.underlying36 Try.sizeOf30 rfl rfl ⟨_, _, rfl, by omega, by omega⟩ (by omega) (by omega)) rfl rfl rfl ?_
   refine tA rfl rfl ?_
   refine tE ?_
   exact At.meets (_, ws0.take (N - K)) ⟨rdW_take hv (by omega), (by show (ws0.take _).length ≤ _; rw [List.length_take]; omega)⟩ (Sub.cons rfl (Sub.cons rfl (Sub.cons rfl (Sub.cons rfl (Sub.cons rfl (Sub.cons rfl Sub.nil)))))) (List.Perm.refl _)
  ·skip
   try simp only [hasB, isSizeB, Bool.not_eq_true', Bool.not_eq_false', bne_iff_ne, ne_eq, bne_eq_false_iff_eq, beq_iff_eq, beq_eq_false_iff_ne, decide_eq_true_eq, decide_eq_false_iff_not, gt_iff_lt, ge_iff_le] at h6
   refine At.skipC ?_
   refine At.thenN ?_
   exact At.meets ((.slice A ws0.length cw), ws0) ⟨hv, (show ws0.length ≤ _ by omega)⟩ (Sub.cons rfl (Sub.cons rfl (Sub.cons rfl (Sub.cons rfl (Sub.cons rfl (Sub.cons rfl Sub.nil)))))) (List.Perm.refl _)
 ·skip
  intro s hs
  obtain ⟨vw, lw⟩ := s
  dsimp only at hs ⊢
  obtain ⟨hvw, hlw⟩ := hs
  refine tR ?_
  refine At.val (Val.field 3 rfl fo_69_3 rfl) rfl rfl rfl ?_
  refine At.val (Val.load (i := 2) Try.isAgg3 rfl rfl rfl) rfl rfl rfl ?_
  refine tM rfl rfl ?_
  refine At.val (Val.mulI rfl rfl (by omega) (by omega)) rfl rfl rfl ?_
  rw [show 8 * (8 * (N : Int)) = 8 * ((8 * N : Nat) : Int) from by omega]
  refine At.callP (fun w hw => word_p _ (8 * N) w (by omega) (by omega)) Try.call23 rfl rfl ?_
  rw [← hFe]
  refine At.val (Val.quoI rfl rfl (by omega) (by omega) (by decide)) rfl rfl rfl ?_
  rw [show 8 * (F : Int) / 8 = (F : Int) from by omega]
  refine tA rfl rfl ?_
  refine tE ?_
  refine tR ?_
  refine At.val (Val.field 4 rfl fo_69_4 rfl) rfl rfl rfl ?_
  refine At.val (Val.load (i := 2) Try.isAgg3 rfl rfl rfl) rfl rfl rfl ?_
  refine tA rfl rfl ?_
  refine tE ?_
  refine At.join (σ := Int) (fun x => x = fuseI' ct) (fun x => [(1, .pointer (some ⟨b1, 0, none⟩)), (3, .int .i64 (8 * (N : Int))), (4, .pointer (some ⟨p2, 0, none⟩)), (6, .pointer (some ⟨p4, 0, none⟩)), (8, .int .i64 (8 * (K : Int))), (9, vw), (10, .int .i64 (F : Int)), (11, .int .i64 x)]) (fun x => [Dev p4 y5 (zeroD N), Dev p2 y3 (zeroD N), blk b1 69 ([.int .i64 pg, .int .i64 a, .slice A ws0.length cw, .int .i64 fr, .int .i64 ct, .int .i64 lf])]) ?_ ?_
  ·skip
   refine tR ?_
   refine tM rfl rfl ?_
   refine At.val (Val.bin rfl rfl rfl) rfl rfl rfl ?_
   refine tE ?_
   refine At.cond rfl (fun h7 => ?_) (fun h7 => ?_)
   ·skip
    try simp only [hasB, isSizeB, Bool.not_eq_true', Bool.not_eq_false', bne_iff_ne, ne_eq, bne_eq_false_iff_eq, beq_iff_eq, beq_eq_false_iff_ne, decide_eq_true_eq, decide_eq_false_iff_not, gt_iff_lt, ge_iff_le] at h7
    refine At.region ?_
    refine tM rfl rfl ?_
    first | refine At.val (Val.addI rfl rfl (by omega) (by omega)) rfl rfl rfl ?_ | refine At.val (Val.bin rfl rfl rfl) rfl rfl rfl ?_
    refine At.val (Val.neg rfl) rfl rfl rfl ?_
    rw [wrap_i64 (n := 0 - (ct + 1)) (by omega) (by omega)]
    refine tA rfl rfl ?_
    refine tE ?_
    exact At.meets _ (by unfold fuseI'; first | (rw [if_pos (by assumption)]; omega) | rw [if_neg (by assumption)]) (Sub.cons rfl (Sub.cons rfl (Sub.cons rfl (Sub.cons rfl (Sub.cons rfl (Sub.cons rfl (Sub.cons rfl (Sub.cons rfl Sub.nil)))))))) (List.Perm.refl _)
   ·skip
    try simp only [hasB, isSizeB, Bool.not_eq_true', Bool.not_eq_false', bne_iff_ne, ne_eq, bne_eq_false_iff_eq, beq_iff_eq, beq_eq_false_iff_ne, decide_eq_true_eq, decide_eq_false_iff_not, gt_iff_lt, ge_iff_le] at h7
    refine At.skipC ?_
    refine At.thenN ?_
    exact At.meets _ (by unfold fuseI'; first | (rw [if_pos (by assumption)]; omega) | rw [if_neg (by assumption)]) (Sub.cons rfl (Sub.cons rfl (Sub.cons rfl (Sub.cons rfl (Sub.cons rfl (Sub.cons rfl (Sub.cons rfl (Sub.cons rfl Sub.nil)))))))) (List.Perm.refl _)
  ·skip
   intro x hs
   have hx := hs
   unfold fuseI' at hx
   refine tR ?_
   refine tM rfl rfl ?_
   refine tM rfl rfl ?_
   refine tM rfl rfl ?_
   first | refine At.val (Val.subI rfl rfl (by omega) (by omega)) rfl rfl rfl ?_ | refine At.val (Val.bin rfl rfl rfl) rfl rfl rfl ?_
   first | refine At.val (Val.addI rfl rfl (by omega) (by omega)) rfl rfl rfl ?_ | refine At.val (Val.bin rfl rfl rfl) rfl rfl rfl ?_
   have hx0 : 0 ≤ x := by split at hx <;> omega
   have hr1 := Int.emod_nonneg x (b := 8 * (N : Int) - (F : Int) + 1) (by omega)
   have hr2 := Int.emod_lt_of_pos x (b := 8 * (N : Int) - (F : Int) + 1) (by omega)
   refine At.val (Val.remI rfl rfl hx0 (by omega)) rfl rfl rfl ?_
   generalize x % (8 * (N : Int) - (F : Int) + 1) = c0 at *
   obtain ⟨c, rfl⟩ : ∃ c : Nat, c0 = (c : Int) := ⟨c0.toNat, by omega⟩
   refine tA rfl rfl ?_
   refine tE ?_
   refine At.join (σ := Gh × Gh × Ds) (fun s => s.2.2.ws.length = N ∧ s.2.2.steps = 0 ∧ (lf < 0 → s.2.2.armed = false)) (fun s => [(1, .pointer (some ⟨b1, 0, none⟩)), (3, .int .i64 (8 * (N : Int))), (4, .pointer (some ⟨p2, 0, none⟩)), (6, .pointer (some ⟨p4, 0, none⟩)), (8, .int .i64 (8 * (K : Int))), (9, vw), (10, .int .i64 (F : Int)), (11, .int .i64 (c : Int))]) (fun s => [Dev p4 s.2.1 s.2.2, Dev p2 s.1 s.2.2, blk b1 69 ([.int .i64 pg, .int .i64 a, .slice A ws0.length cw, .int .i64 fr, .int .i64 ct, .int .i64 lf])]) ?_ ?_
   ·skip
    refine tR ?_
    refine At.val (Val.field 5 rfl fo_69_5 rfl) rfl rfl rfl ?_
    refine At.val (Val.load (i := 2) Try.isAgg3 rfl rfl rfl) rfl rfl rfl ?_
    refine At.val (Val.bin rfl rfl rfl) rfl rfl rfl ?_
    refine tE ?_
    refine At.cond rfl (fun h8 => ?_) (fun h8 => ?_)
    ·skip
     try simp only [hasB, isSizeB, Bool.not_eq_true', Bool.not_eq_false', bne_iff_ne, ne_eq, bne_eq_false_iff_eq, beq_iff_eq, beq_eq_false_iff_ne, decide_eq_true_eq, decide_eq_false_iff_not, gt_iff_lt, ge_iff_le] at h8
     obtain ⟨m, hm⟩ : ∃ m : Nat, lf % 200 = (m : Int) := ⟨(lf % 200).toNat, by omega⟩
     refine tR ?_
     refine tM rfl rfl ?_
     refine At.val (Val.field 5 rfl fo_69_5 rfl) rfl rfl rfl ?_
     refine At.val (Val.load (i := 2) Try.isAgg3 rfl rfl rfl) rfl rfl rfl ?_
     refine At.val (Val.remI rfl rfl (by omega) (by decide)) rfl rfl rfl ?_
     rw [hm]
     refine At.callD 1 rfl (fun w hw hr => arm_d _ _ _ m w (by omega) rfl hr) Try.call36 rfl rfl (fun y9 => ?_)
     simp only [sc0, scS]
     refine tA rfl rfl ?_
     refine tE ?_
     refine tR ?_
     refine tM rfl rfl ?_
     refine At.val (Val.field 5 rfl fo_69_5 rfl) rfl rfl rfl ?_
     refine At.val (Val.load (i := 2) Try.isAgg3 rfl rfl rfl) rfl rfl rfl ?_
     refine At.val (Val.remI rfl rfl (by omega) (by decide)) rfl rfl rfl ?_
     rw [hm]
     refine At.callD 0 rfl (fun w hw hr => arm_d _ _ _ m w (by omega) rfl hr) Try.call36 rfl rfl (fun y10 => ?_)
     simp only [sc0, scS]
     refine tA rfl rfl ?_
     refine tE ?_
     refine tR ?_
     refine tM rfl rfl ?_
     refine At.val (Val.bin rfl rfl rfl) rfl rfl rfl ?_
     refine tM rfl rfl ?_
     refine At.yes rfl rfl ?_
     refine tM rfl rfl ?_
     refine At.yes rfl rfl ?_
     refine At.val (Val.bin rfl rfl rfl) rfl rfl rfl ?_
     refine At.val (Val.pickF rfl rfl) rfl rfl rfl ?_
     refine tE ?_
     refine At.condF rfl ?_
     refine At.skipC ?_
     refine At.thenN ?_
     exact At.meets (y9, y10, armD (zeroD N) m) (by dsimp only; first | exact ⟨zeroD_len N, rfl, fun _ => rfl⟩ | exact ⟨zeroD_len N, rfl, fun h => absurd h (by omega)⟩) (Sub.cons rfl (Sub.cons rfl (Sub.cons rfl (Sub.cons rfl (Sub.cons rfl (Sub.cons rfl (Sub.cons rfl (Sub.cons rfl Sub.nil)))))))) (List.Perm.refl _)
    ·skip
     try simp only [hasB, isSizeB, Bool.not_eq_true', Bool.not_eq_false', bne_iff_ne, ne_eq, bne_eq_false_iff_eq, beq_iff_eq, beq_eq_false_iff_ne, decide_eq_true_eq, decide_eq_false_iff_not, gt_iff_lt, ge_iff_le] at h8
     refine At.skipC ?_
     refine At.thenN ?_
     exact At.meets (y3, y5, zeroD N) (by dsimp only; first | exact ⟨zeroD_len N, rfl, fun _ => rfl⟩ | exact ⟨zeroD_len N, rfl, fun h => absurd h (by omega)⟩) (Sub.cons rfl (Sub.cons rfl (Sub.cons rfl (Sub.cons rfl (Sub.cons rfl (Sub.cons rfl (Sub.cons rfl (Sub.cons rfl Sub.nil)))))))) (List.Perm.refl _)
   ·skip
    intro s hs
    obtain ⟨γ1, γ2, τ⟩ := s
    dsimp only at hs ⊢
    obtain ⟨hτl, hτs, hτa⟩ := hs
    refine tR ?_
    refine tM rfl rfl ?_
    refine tM rfl rfl ?_
    refine tM rfl rfl ?_
    refine At.callN (fun w hw => laid_n vw lw w (hvw.mod hw.mod) (by omega)) Try.call44 rfl rfl (fun v11 => ?_)
    refine At.callD 2 rfl (fun w hw hr => (by have h0 := write_d _ _ _ K lw.length _ _ w (row_rd (hw.row (i := 0) rfl) (by decide)) (Rep.offRow (i := 0) (j := 2) hw rfl rfl (by decide)) (wbytes_length lw) (by omega) (by omega) hr; rwa [wordsL_wbytes] at h0)) Try.call43 rfl rfl (fun y12 => ?_)
    simp only [sc0, scS]
    refine tA rfl rfl ?_
    refine tE ?_
    refine tR ?_
    refine tM rfl rfl ?_
    refine tM rfl rfl ?_
    refine tM rfl rfl ?_
    refine At.callD 1 rfl (fun w hw hr => storeEach_d _ _ _ K vw lw w (hvw.mod hw.mod) (hvw.off (hw.newFoot (List.mem_of_getElem? (i := 1) rfl))) (by omega) (by omega) hr) Try.call45 rfl rfl (fun y13 => ?_)
    simp only [sc0, scS]
    refine tA rfl rfl ?_
    refine At.nil ?_
    obtain ⟨e1, e2, e3⟩ := storesE_rest lw K τ (by omega)
    generalize storesE K τ lw = E1 at *
    obtain ⟨cnt, hcnt, hcb⟩ : ∃ cnt, cntP F c cnt ∧ cnt ≤ 65536 := ⟨_, cntL_P F c, by unfold cntL; split <;> omega⟩
    refine At.thenN ?_
    refine At.seq ?_
    refine tR ?_
    refine tM rfl rfl ?_
    refine tM rfl rfl ?_
    refine At.val (Val.bin rfl rfl rfl) rfl rfl rfl ?_
    rw [bne_self_eq_false]
    refine tM rfl rfl ?_
    refine At.weaken [(1, _), (3, _), (4, _), (6, _), (8, _), (9, _), (10, _), (11, _), (92, _), (93, _), (94, _), (95, _), (96, _), (14, _), (97, _), (98, _), (99, _), (100, _), (15, _), (104, _)] (Sub.cons rfl (Sub.cons rfl (Sub.cons rfl (Sub.cons rfl (Sub.cons rfl (Sub.cons rfl (Sub.cons rfl (Sub.cons rfl (Sub.cons rfl (Sub.cons rfl (Sub.cons rfl (Sub.cons rfl (Sub.cons rfl (Sub.cons rfl (Sub.cons rfl (Sub.cons rfl (Sub.cons rfl (Sub.cons rfl (Sub.cons rfl (Sub.cons rfl Sub.nil)))))))))))))))))))) ?_
    refine At.boolMeet 8 112 (false) ?_ ?_
    ·skip
     simp only [List.take_succ_cons, List.take_zero]
     refine At.yes rfl rfl ?_
     refine At.val (Val.field 5 rfl fo_69_5 rfl) rfl rfl rfl ?_
     refine At.yes rfl rfl ?_
     refine At.val (Val.load (i := 3) Try.isAgg3 rfl rfl rfl) rfl rfl rfl ?_
     refine At.yes rfl rfl ?_
     refine At.val (Val.bin rfl rfl rfl) rfl rfl rfl ?_
     refine At.yes rfl rfl ?_
     refine tM rfl rfl ?_
     refine At.split (t := 108) rfl (fun h14 => ?_) (fun h14 => ?_)
     ·skip
      try simp only [hasB, isSizeB, Bool.not_eq_true', Bool.not_eq_false', bne_iff_ne, ne_eq, bne_eq_false_iff_eq, beq_iff_eq, beq_eq_false_iff_ne, decide_eq_true_eq, decide_eq_false_iff_not, gt_iff_lt, ge_iff_le] at h14
      refine At.yes rfl rfl ?_
      refine tM rfl rfl ?_
      refine At.yes rfl rfl ?_
      refine At.val (Val.bin rfl rfl rfl) rfl rfl rfl ?_
      refine At.yes rfl rfl ?_
      refine At.val (Val.pickT rfl rfl) rfl rfl rfl ?_
      refine At.val (Val.pickF rfl rfl) rfl rfl rfl ?_
      refine At.nil ?_
      exact At.boolEnd rfl (by first | rfl | (rw [(e3 (by first | (apply hτa; omega) | (exact (e3 (by apply hτa; omega)).2))).1]; rfl)) (by repeat (first | exact Sub.nil | refine Sub.cons rfl ?_))
     ·skip
      try simp only [hasB, isSizeB, Bool.not_eq_true', Bool.not_eq_false', bne_iff_ne, ne_eq, bne_eq_false_iff_eq, beq_iff_eq, beq_eq_false_iff_ne, decide_eq_true_eq, decide_eq_false_iff_not, gt_iff_lt, ge_iff_le] at h14
      refine At.no rfl rfl rfl rfl ?_
      refine At.no rfl rfl rfl rfl ?_
      refine At.yes rfl rfl ?_
      refine At.val (Val.pickF rfl rfl) rfl rfl rfl ?_
      refine At.val (Val.pickF rfl rfl) rfl rfl rfl ?_
      refine At.nil ?_
      exact At.boolEnd rfl (by first | rfl | (rw [(e3 (by first | (apply hτa; omega) | (exact (e3 (by apply hτa; omega)).2))).1]; rfl)) (by repeat (first | exact Sub.nil | refine Sub.cons rfl ?_))
    ·skip
     simp only [List.drop_succ_cons, List.drop_zero]
     refine tE ?_
     refine At.cond rfl (fun h15 => ?_) (fun h15 => ?_)
     ·skip
      try simp only [hasB, isSizeB, Bool.not_eq_true', Bool.not_eq_false', bne_iff_ne, ne_eq, bne_eq_false_iff_eq, beq_iff_eq, beq_eq_false_iff_ne, decide_eq_true_eq, decide_eq_false_iff_not, gt_iff_lt, ge_iff_le] at h15
      cases h15
     ·skip
      try simp only [hasB, isSizeB, Bool.not_eq_true', Bool.not_eq_false', bne_iff_ne, ne_eq, bne_eq_false_iff_eq, beq_iff_eq, beq_eq_false_iff_ne, decide_eq_true_eq, decide_eq_false_iff_not, gt_iff_lt, ge_iff_le] at h15
      refine At.skipC ?_
      refine At.thenN ?_
      refine tR ?_
      refine tM rfl rfl ?_
      refine tM rfl rfl ?_
      refine tM rfl rfl ?_
      refine At.callD 2 rfl (fun w hw hr => flushAll_d _ _ _ F c cnt w (by omega) hcnt (by omega) hr) Try.call40 rfl rfl (fun y16 => ?_)
      simp only [sc0, scS]
      refine tA rfl rfl ?_
      refine tE ?_
      refine tR ?_
      refine tM rfl rfl ?_
      refine tM rfl rfl ?_
      refine tM rfl rfl ?_
      refine At.callD 1 rfl (fun w hw hr => flushEach_d _ _ _ F c cnt w (by omega) hcnt (by omega) hr) Try.call46 rfl rfl (fun y17 => ?_)
      simp only [sc0, scS]
      refine tA rfl rfl ?_
      refine At.nil ?_
      obtain ⟨f1, f2, f3⟩ := linesE_rest cnt (F / 64) E1.2
      generalize linesE (F / 64) E1.2 cnt = E2 at *
      refine At.thenN ?_
      refine At.seq ?_
      refine tR ?_
      refine tM rfl rfl ?_
      refine tM rfl rfl ?_
      refine At.val (Val.bin rfl rfl rfl) rfl rfl rfl ?_
      rw [bne_self_eq_false]
      refine tM rfl rfl ?_
      refine At.weaken [(1, _), (3, _), (4, _), (6, _), (8, _), (9, _), (10, _), (11, _), (92, _), (93, _), (94, _), (95, _), (96, _), (14, _), (97, _), (98, _), (99, _), (100, _), (15, _), (104, _), (112, _), (113, _), (114, _), (115, _), (116, _), (117, _), (118, _), (119, _), (120, _), (124, _)] (Sub.cons rfl (Sub.cons rfl (Sub.cons rfl (Sub.cons rfl (Sub.cons rfl (Sub.cons rfl (Sub.cons rfl (Sub.cons rfl (Sub.cons rfl (Sub.cons rfl (Sub.cons rfl (Sub.cons rfl (Sub.cons rfl (Sub.cons rfl (Sub.cons rfl (Sub.cons rfl (Sub.cons rfl (Sub.cons rfl (Sub.cons rfl (Sub.cons rfl (Sub.cons rfl (Sub.cons rfl (Sub.cons rfl (Sub.cons rfl (Sub.cons rfl (Sub.cons rfl (Sub.cons rfl (Sub.cons rfl (Sub.cons rfl (Sub.cons rfl Sub.nil)))))))))))))))))))))))))))))) ?_
      refine At.boolMeet 8 132 (false) ?_ ?_
      ·skip
       simp only [List.take_succ_cons, List.take_zero]
       refine At.yes rfl rfl ?_
       refine At.val (Val.field 5 rfl fo_69_5 rfl) rfl rfl rfl ?_
       refine At.yes rfl rfl ?_
       refine At.val (Val.load (i := 3) Try.isAgg3 rfl rfl rfl) rfl rfl rfl ?_
       refine At.yes rfl rfl ?_
       refine At.val (Val.bin rfl rfl rfl) rfl rfl rfl ?_
       refine At.yes rfl rfl ?_
       refine tM rfl rfl ?_
       refine At.split (t := 128) rfl (fun h18 => ?_) (fun h18 => ?_)
       ·skip
        try simp only [hasB, isSizeB, Bool.not_eq_true', Bool.not_eq_false', bne_iff_ne, ne_eq, bne_eq_false_iff_eq, beq_iff_eq, beq_eq_false_iff_ne, decide_eq_true_eq, decide_eq_false_iff_not, gt_iff_lt, ge_iff_le] at h18
        refine At.yes rfl rfl ?_
        refine tM rfl rfl ?_
        refine At.yes rfl rfl ?_
        refine At.val (Val.bin rfl rfl rfl) rfl rfl rfl ?_
        refine At.yes rfl rfl ?_
        refine At.val (Val.pickT rfl rfl) rfl rfl rfl ?_
        refine At.val (Val.pickF rfl rfl) rfl rfl rfl ?_
        refine At.nil ?_
        exact At.boolEnd rfl (by first | rfl | (rw [(f3 (by first | (apply hτa; omega) | (exact (e3 (by apply hτa; omega)).2))).1]; rfl)) (by repeat (first | exact Sub.nil | refine Sub.cons rfl ?_))
       ·skip
        try simp only [hasB, isSizeB, Bool.not_eq_true', Bool.not_eq_false', bne_iff_ne, ne_eq, bne_eq_false_iff_eq, beq_iff_eq, beq_eq_false_iff_ne, decide_eq_true_eq, decide_eq_false_iff_not, gt_iff_lt, ge_iff_le] at h18
        refine At.no rfl rfl rfl rfl ?_
        refine At.no rfl rfl rfl rfl ?_
        refine At.yes rfl rfl ?_
        refine At.val (Val.pickF rfl rfl) rfl rfl rfl ?_
        refine At.val (Val.pickF rfl rfl) rfl rfl rfl ?_
        refine At.nil ?_
        exact At.boolEnd rfl (by first | rfl | (rw [(f3 (by first | (apply hτa; omega) | (exact (e3 (by apply hτa; omega)).2))).1]; rfl)) (by repeat (first | exact Sub.nil | refine Sub.cons rfl ?_))
      ·skip
       simp only [List.drop_succ_cons, List.drop_zero]
       refine tM rfl rfl ?_
       refine At.split (t := 133) rfl (fun h19 => ?_) (fun h19 => ?_)
       ·skip
        try simp only [hasB, isSizeB, Bool.not_eq_true', Bool.not_eq_false', bne_iff_ne, ne_eq, bne_eq_false_iff_eq, beq_iff_eq, beq_eq_false_iff_ne, decide_eq_true_eq, decide_eq_false_iff_not, gt_iff_lt, ge_iff_le] at h19
        cases h19
       ·skip
        try simp only [hasB, isSizeB, Bool.not_eq_true', Bool.not_eq_false', bne_iff_ne, ne_eq, bne_eq_false_iff_eq, beq_iff_eq, beq_eq_false_iff_ne, decide_eq_true_eq, decide_eq_false_iff_not, gt_iff_lt, ge_iff_le] at h19
        refine At.yes rfl rfl ?_
        refine tM rfl rfl ?_
        refine At.yes rfl rfl ?_
        refine At.callK 2 rfl (fun w hw hr => steps_k _ _ _ w hr) Try.call38 rfl rfl ?_
        refine At.yes rfl rfl ?_
        refine tM rfl rfl ?_
        refine At.yes rfl rfl ?_
        refine At.callK 1 rfl (fun w hw hr => steps_k _ _ _ w hr) Try.call38 rfl rfl ?_
        refine At.yes rfl rfl ?_
        refine At.val (Val.bin rfl rfl rfl) rfl rfl rfl ?_
        rw [bne_self_eq_false]
        refine At.val (Val.pickF rfl rfl) rfl rfl rfl ?_
        refine tM rfl rfl ?_
        refine At.yes rfl rfl ?_
        refine tM rfl rfl ?_
        refine At.yes rfl rfl ?_
        refine tM rfl rfl ?_
        refine At.yes rfl rfl ?_
        refine At.bring 1 rfl ?_
        simp only [ec0, ecS]
        refine At.bring 2 rfl ?_
        simp only [ec0, ecS]
        refine At.callKS [Dev p2 y16 (E2.2), Dev p4 y17 (E2.2)] rfl (fun w hw hr => alike_k _ _ _ _ _ _ w rfl hr) Try.call39 rfl rfl ?_
        refine At.yes rfl rfl ?_
        refine At.val (Val.not rfl) rfl rfl rfl ?_
        refine At.val (Val.pickF rfl rfl) rfl rfl rfl ?_
        refine tE ?_
        refine At.condF rfl ?_
        refine At.skipC ?_
        refine At.thenN ?_
        refine tR ?_
        refine tM rfl rfl ?_
        cases hdb : deadB E2.2
        ·skip
         refine At.callD 0 rfl (fun w hw hr => fence_d _ _ _ w (by omega) hdb hr) Try.call33 rfl rfl (fun y20 => ?_)
         simp only [sc0, scS]
         refine tE ?_
         refine tR ?_
         refine tM rfl rfl ?_
         refine At.callD 1 rfl (fun w hw hr => fence_d _ _ _ w (by omega) hdb hr) Try.call33 rfl rfl (fun y21 => ?_)
         simp only [sc0, scS]
         refine tE ?_
         refine tR ?_
         refine tM rfl rfl ?_
         refine tM rfl rfl ?_
         refine At.bring 1 rfl ?_
         simp only [ec0, ecS]
         refine At.bring 1 rfl ?_
         simp only [ec0, ecS]
         refine At.callKS [Dev p2 y20 (fenceD (stepD E2.2)), Dev p4 y21 (fenceD (stepD E2.2))] rfl (fun w hw hr => alike_k _ _ _ _ _ _ w rfl hr) Try.call39 rfl rfl ?_
         refine tA rfl rfl ?_
         refine tE ?_
         refine At.retC ?_
         refine At.ret1 (.inl rfl) rfl rfl rfl (fun w hw => ?_)
         exact ⟨rfl, hw.mod⟩
        ·skip
         refine At.callK 0 rfl (fun w hw hr => fence_0 _ _ _ w hdb hr) Try.call33 rfl rfl ?_
         refine tE ?_
         refine tR ?_
         refine tM rfl rfl ?_
         refine At.callK 1 rfl (fun w hw hr => fence_0 _ _ _ w hdb hr) Try.call33 rfl rfl ?_
         refine tE ?_
         refine tR ?_
         refine tM rfl rfl ?_
         refine tM rfl rfl ?_
         refine At.bring 1 rfl ?_
         simp only [ec0, ecS]
         refine At.bring 1 rfl ?_
         simp only [ec0, ecS]
         refine At.callKS [Dev p2 y16 (E2.2), Dev p4 y17 (E2.2)] rfl (fun w hw hr => alike_k _ _ _ _ _ _ w rfl hr) Try.call39 rfl rfl ?_
         refine tA rfl rfl ?_
         refine tE ?_
         refine At.retC ?_
         refine At.ret1 (.inl rfl) rfl rfl rfl (fun w hw => ?_)
         exact ⟨rfl, hw.mod⟩

end Go.Proofs.Ytkpbpeajkfgfiaa
