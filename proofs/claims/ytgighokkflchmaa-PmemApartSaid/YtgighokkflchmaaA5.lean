/- PmemApart: what is lent in. -/
import Derived.Test.YtgighokkflchmaaAr
import Derived.Test.YtgighokkflchmaaQ6
import Derived.Test.YtgighokkflchmaaQ1
import Derived.Test.YtgighokkflchmaaP12
set_option linter.unusedVariables false
set_option linter.unusedSimpArgs false
namespace Go.Proofs.Ytgighokkflchmaa
open Go Go.Wk
theorem storesE_rest : ∀ (l : List (BitVec 64)) (k : Nat) (σ : Ds), k + l.length ≤ σ.ws.length → (storesE k σ l).2.ws.length = σ.ws.length ∧ (storesE k σ l).2.steps ≤ σ.steps + l.length ∧ (σ.armed = false → (storesE k σ l).1 = 0 ∧ (storesE k σ l).2.armed = false)
  | [], k, σ, _ => ⟨rfl, Nat.le_refl _, fun h => ⟨rfl, h⟩⟩
  | x :: l, k, σ, h => by
    rw [List.length_cons] at h
    cases hd : deadB σ with
    | true =>
      rw [storesE_dead hd]
      exact ⟨rfl, Nat.le_add_right _ _, fun ha => by rw [dead_of ha] at hd; cases hd⟩
    | false =>
      rw [storesE_live hd]
      obtain ⟨h1, h2, h3⟩ := storeD_rest (σ := σ) x (show k < σ.ws.length by omega)
      obtain ⟨g1, g2, g3⟩ := storesE_rest l (k + 1) (storeD σ k x) (by omega)
      exact ⟨g1.trans h3, by rw [List.length_cons]; omega, fun ha => g3 (h2.trans ha)⟩
/-- Bytes that stand behind. -/
def beh (k : Nat) : List UInt8 := (List.range k).map fun j => UInt8.ofNat (200 + j)
theorem beh_succ (k : Nat) : beh (k + 1) = beh k ++ [UInt8.ofNat (200 + k)] := by unfold beh; rw [List.range_succ, List.map_append]; rfl
theorem beh_len (k : Nat) : (beh k).length = k := by simp [beh]

theorem cut_off1 {A : Option Addr} {n c k : Nat} {xs ys : List Value} {T : Nat → Prop} (h : Off (.slice A n c) xs T) (hx : xs ≠ []) : Off (.slice (cutA A c 0 1) (k - 0) (c - 0)) ys T := fun hne b o s n' c' e => by
  cases A with
  | none =>
    simp only [cutA, Value.slice.injEq] at e
    exact absurd e.1 (by simp)
  | some a =>
    obtain ⟨b', o', s'⟩ := a
    have hb := h hx b' o' s' n c rfl
    simp only [cutA, Value.slice.injEq, Option.some.injEq, Addr.mk.injEq] at e
    rw [← e.1.1]; exact hb
theorem rdI_cut {w : World} {A : Option Addr} {c n : Nat} {cs ex : List Int} (h : Rd w (.slice A n c) 1 n ((cs ++ ex).map (Value.int .i64))) (hl : cs.length ≤ n) : RdI w (.slice (cutA A c 0 1) (cs.length - 0) (c - 0)) cs := by
  have := Rd.cut h (Nat.zero_le cs.length) hl
  simp only [Nat.zero_mul, List.drop_zero, Nat.sub_zero, Nat.mul_one, List.map_append] at this ⊢
  rw [List.take_left' (by rw [List.length_map])] at this
  exact this
theorem loadD_facts (l : List UInt8) : (loadD l).ws.length = l.length / 8 ∧ (loadD l).armed = false ∧ (loadD l).steps = 0 := ⟨by unfold loadD loadWs; simp, rfl, rfl⟩
def ex3 : List Int := [71, 72, 73]

theorem roomy_n (v : Value) (l : List UInt8) (w : World) (hv : RdB w v l) (hl : l.length ≤ 1000000) :
    NewRow Try.prog 34 [v] 5 1 (l ++ beh 24).length ((l ++ beh 24).map bv) w := by
 refine enter (feet []) [] Try.func34 rfl Try.ntmps34 rfl ⟨by simp, by simp, by simp, Mod.refl _ _⟩ ?_
 simp only [envOf]
 refine tR ?_
 refine tA rfl rfl ?_
 refine tE ?_
 refine tR ?_
 refine tA rfl rfl ?_
 refine At.nil ?_
 refine At.rowNilB 5 ?_
 refine At.thenN ?_
 refine tR ?_
 refine tM rfl rfl ?_
 refine tM rfl rfl ?_
 refine At.appendRdB (i := 0) (by_ := 1) Try.underlying36 info_5 rfl rfl rfl rfl rfl rfl rfl hv (fun _ _ _ _ _ _ _ h => by simp [feet] at h) (by simp only [List.length_nil]; omega) (by simp only [List.length_nil]; omega) rfl (fun v1 => ?_)
 simp only [List.set_cons_zero, List.set_cons_succ, List.nil_append]
 refine tA rfl rfl ?_
 refine tE ?_
 refine At.seq ?_
 refine tR ?_
 refine tA rfl rfl ?_
 refine tE ?_
 refine At.block ?_
 skip
 refine At.loop (σ := Nat × Value) (fun s => s.1 ≤ 24) (fun s => [(3, s.2), (4, .int .i64 (s.1 : Int))]) (fun s => [brow 5 s.2 (l ++ beh s.1)]) (fun s => 24 - s.1) (0, v1) (Nat.zero_le _) (Sub.cons rfl (Sub.cons rfl Sub.nil)) (by rw [show l ++ beh 0 = l from List.append_nil l]) ?_
 intro s hs
 obtain ⟨k, vr⟩ := s
 dsimp only at hs ⊢
 refine At.seq ?_
 refine tR ?_
 refine tM rfl rfl ?_
 refine At.val (Val.bin rfl rfl rfl) rfl rfl rfl ?_
 refine tE ?_
 refine At.cond rfl (fun h2 => ?_) (fun h2 => ?_)
 ·skip
  try simp only [hasB, isSizeB, Bool.not_eq_true', Bool.not_eq_false', bne_iff_ne, ne_eq, bne_eq_false_iff_eq, beq_iff_eq, beq_eq_false_iff_ne, decide_eq_true_eq, decide_eq_false_iff_not, gt_iff_lt, ge_iff_le] at h2
  have hbl := beh_len k
  have hlb : (l ++ beh k).length = l.length + k := by rw [List.length_append, hbl]
  refine At.skipC ?_
  refine At.thenN ?_
  refine At.seq ?_
  refine At.block ?_
  refine At.region ?_
  refine tM rfl rfl ?_
  refine tM rfl rfl ?_
  refine At.val (Val.addI rfl rfl (by omega) (by omega)) rfl rfl rfl ?_
  rw [show (200 : Int) + (k : Int) = ((200 + k : Nat) : Int) from by omega]
  refine At.val (Val.toB Try.underlying3 Try.underlying5 rfl (Int.natCast_nonneg _)) rfl rfl rfl ?_
  rw [Int.toNat_natCast]
  refine At.buildSl (fun a ha => by simp only [List.map_toArray, List.map_cons, List.map_nil, ha.eval (x := (.tmp 15)) rfl]; try rfl) (bs_36_1 _ ) rfl (fun b3 => ?_)
  refine At.appendB1 (i := 1) (j := 0) (by_ := 1) Try.underlying36 info_5 rfl rfl rfl rfl rfl rfl rfl rfl (by omega) (by omega) rfl (fun v4 => ?_)
  simp only [sc0, scS]
  refine At.drop 0 ?_
  simp only [ec0, ecS]
  refine tA rfl rfl ?_
  refine At.nil ?_
  refine At.blkN ?_
  refine At.thenN ?_
  refine At.region ?_
  refine tM rfl rfl ?_
  first | refine At.val (Val.addI rfl rfl (by omega) (by omega)) rfl rfl rfl ?_ | refine At.val (Val.bin rfl rfl rfl) rfl rfl rfl ?_
  refine tA rfl rfl ?_
  refine tE ?_
  exact At.again (k + 1, v4) (show k + 1 ≤ 24 by omega) (by dsimp only; omega) (Sub.cons rfl (Sub.cons (congrArg (fun z => some (Value.int IntKind.i64 z)) (by omega)) Sub.nil)) (by dsimp only; rw [beh_succ, ← List.append_assoc])
 ·skip
  try simp only [hasB, isSizeB, Bool.not_eq_true', Bool.not_eq_false', bne_iff_ne, ne_eq, bne_eq_false_iff_eq, beq_iff_eq, beq_eq_false_iff_ne, decide_eq_true_eq, decide_eq_false_iff_not, gt_iff_lt, ge_iff_le] at h2
  refine At.exitC ?_
  refine At.thenX ?_
  refine At.thenX ?_
  refine At.blkX ?_
  refine At.thenN ?_
  refine tR ?_
  refine tM rfl rfl ?_
  refine tA rfl rfl ?_
  refine tE ?_
  refine At.retC ?_
  refine At.ret1 (.inl rfl) rfl rfl rfl (fun w hw => ?_)
  obtain rfl : k = 24 := by omega
  exact ⟨_, rfl, hw⟩

theorem lentIn_p (va vb vc : Value) (l1 l2 : List UInt8) (cs : List Int) (m2 : Nat) (w : World) (hv : RdB w va l1) (hu : RdB w vb l2) (hc : RdI w vc cs) (hsz : isSizeB (l1.length : Int) = true) (h12 : l2.length ≤ l1.length) (h1l : l1.length ≤ 100000) (hm2 : l2.length = 8 * m2) (hcl : cs.length ≤ 17592186043904) (hne2 : (l2 ++ beh 24).map bv ≠ []) :
    PureC Try.prog 17 [va, vb, vc] (.bool true) w := by
 refine enter0 Try.func17 rfl Try.ntmps17 rfl ?_
 obtain ⟨hd1, hd2, hd3⟩ := loadD_facts l1
 have hwl : (wordsL l2 m2).length = m2 := wordsL_length _ _
 obtain ⟨g1, g2, g3⟩ := storesE_rest (wordsL l2 m2) 0 (loadD l1) (by rw [hd1, hwl]; omega)
 have hwr : (storesE 0 (loadD l1) (wordsL l2 m2)).1 = 0 := (g3 hd2).1
 have hb24 := beh_len 24
 have hR1 : (l1 ++ beh 24).length = l1.length + 24 := by rw [List.length_append, hb24]
 have hR2 : (l2 ++ beh 24).length = l2.length + 24 := by rw [List.length_append, hb24]
 have cut1 : ((l1 ++ beh 24).drop 0).take (l1.length - 0) = l1 := by rw [List.drop_zero, Nat.sub_zero, List.take_left' rfl]
 have cut2 : ((l2 ++ beh 24).drop 0).take (l2.length - 0) = l2 := by rw [List.drop_zero, Nat.sub_zero, List.take_left' rfl]
 simp only [envOf]
 refine tR ?_
 refine tA rfl rfl ?_
 refine tE ?_
 refine tR ?_
 refine tM rfl rfl ?_
 refine At.callN (fun w hw => roomy_n _ l1 w (hv.mod hw.mod) (by omega)) Try.call34 rfl rfl (fun v1 => ?_)
 refine tA rfl rfl ?_
 refine tE ?_
 refine tR ?_
 refine tM rfl rfl ?_
 refine At.callN (fun w hw => roomy_n _ l2 w (hu.mod hw.mod) (by omega)) Try.call34 rfl rfl (fun v2 => ?_)
 refine tA rfl rfl ?_
 refine tE ?_
 refine tR ?_
 refine tA rfl rfl ?_
 refine tE ?_
 refine At.seq ?_
 refine At.rowNil 3 1 ?_
 refine At.region ?_
 refine tM rfl rfl ?_
 refine tM rfl rfl ?_
 refine At.appendRd (i := 0) (sz := 1) (by_ := 8) Try.underlying23 info_3 rfl rfl rfl rfl rfl rfl rfl rfl hc (Off.none _ _) (fun u hu => by obtain ⟨c, _, rfl⟩ := List.mem_map.1 hu; rfl) (by omega) (by omega) rfl (fun v3 => ?_)
 simp only [sc0, scS]
 simp only [List.nil_append, Nat.zero_add]
 refine tA rfl rfl ?_
 refine tE ?_
 refine tR ?_
 refine tM rfl rfl ?_
 refine At.buildSl (fun a ha => by simp only [List.map_toArray, List.map_cons, List.map_nil, ha.eval (x := (.const (.int .i64 (71)))) rfl, ha.eval (x := (.const (.int .i64 (72)))) rfl, ha.eval (x := (.const (.int .i64 (73)))) rfl]; try rfl) (bs_23_3 _ _ _ ) rfl (fun b4 => ?_)
 refine At.append (i := 1) (sz := 1) (by_ := 8) (ys := ex3.map (Value.int .i64)) Try.underlying23 info_3 rfl rfl rfl rfl rfl rfl rfl rfl rfl (fun w hw j u hj => by rw [Nat.zero_add]; exact ((hw.blk (i := 0) rfl).cell j).trans hj) (by simp [Value.oneCell', ex3]) (by omega) (by omega) rfl (fun v5 => ?_)
 simp only [sc0, scS]
 rw [← List.map_append]
 refine At.drop 0 ?_
 simp only [ec0, ecS]
 refine At.rowIs (i := 0) rfl (fun Ac cc hv => ?_)
 subst hv
 refine tA rfl rfl ?_
 refine tE ?_
 refine tR ?_
 refine tM rfl rfl ?_
 refine tM rfl rfl ?_
 refine At.val (Val.lenRd hv Try.underlying36 rfl) rfl rfl rfl ?_
 refine At.rowIs (i := 2) rfl (fun A6 c7 hv => ?_)
 subst hv
 refine At.val (Val.cutRow (i := 2) (l := 0) (h := l1.length) rfl (by decide) Try.underlying36 Try.sizeOf5 rfl rfl ⟨_, _, rfl, by omega, by omega⟩ (by omega) (by omega)) rfl rfl rfl ?_
 refine At.callNB (fun w hw => loaded_d _ l1 w (by have h8 := RdB.cut (l := 0) (h := l1.length) (row_rd (hw.row (i := 2) rfl) (by decide)) (by omega) (by omega); rw [cut1] at h8; exact h8) hsz) Try.call35 rfl rfl (fun p8 y9 => ?_)
 refine tM rfl rfl ?_
 refine At.val (Val.extract rfl rfl) rfl rfl rfl ?_
 refine At.val (Val.extract rfl rfl) rfl rfl rfl ?_
 refine tA rfl rfl ?_
 refine tA rfl rfl ?_
 refine tE ?_
 refine At.seq ?_
 refine tR ?_
 refine tM rfl rfl ?_
 refine At.val (Val.not rfl) rfl rfl rfl ?_
 refine tE ?_
 refine At.condF rfl ?_
 refine At.skipC ?_
 refine At.thenN ?_
 refine tR ?_
 refine tM rfl rfl ?_
 refine tM rfl rfl ?_
 refine tM rfl rfl ?_
 refine At.val (Val.lenRd hu Try.underlying36 rfl) rfl rfl rfl ?_
 refine At.rowIs (i := 2) rfl (fun A10 c11 hv => ?_)
 subst hv
 refine At.val (Val.cutRow (i := 2) (l := 0) (h := l2.length) rfl (by decide) Try.underlying36 Try.sizeOf5 rfl rfl ⟨_, _, rfl, by omega, by omega⟩ (by omega) (by omega)) rfl rfl rfl ?_
 refine At.callD 0 rfl (fun w hw hr => write_d _ _ _ 0 m2 _ l2 w (by have h8 := RdB.cut (l := 0) (h := l2.length) (row_rd (hw.row (i := 2) rfl) (by decide)) (by omega) (by omega); rw [cut2] at h8; exact h8) (cut_off1 (Rep.offRow (i := 2) (j := 0) hw rfl rfl (by decide)) hne2) hm2 (by omega) (by omega) hr) Try.call36 rfl rfl (fun y12 => ?_)
 simp only [sc0, scS]
 rw [hwr]
 refine tA rfl rfl ?_
 refine tE ?_
 refine tR ?_
 refine tM rfl rfl ?_
 refine tM rfl rfl ?_
 refine tM rfl rfl ?_
 refine At.val (Val.lenRd hc Try.underlying23 rfl) rfl rfl rfl ?_
 refine At.val (Val.cutRow (i := 1) (l := 0) (h := cs.length) rfl (by decide) Try.underlying23 Try.sizeOf3 rfl (by exact rfl) (by exact ⟨_, _, rfl, by omega, by omega⟩) (by omega) (by omega)) rfl rfl rfl ?_
 refine At.callRK 0 rfl (fun w hw hr => crash_k _ _ _ _ cs w (rdI_cut (row_rd (hw.row (i := 1) rfl) (by decide)) (by omega)) (cut_off1 (Rep.offRow (i := 1) (j := 0) hw rfl rfl (by decide)) (by simp [ex3])) hr) Try.call9 rfl rfl (fun v13 => ?_)
 refine tE ?_
 refine At.seq ?_
 refine tR ?_
 refine tA rfl rfl ?_
 refine tE ?_
 refine At.block ?_
 skip
 refine At.loop (σ := Nat) (fun k => k ≤ cs.length) (fun k => [(0, va), (1, vb), (2, vc), (7, (.slice A6 (((l1 ++ beh 24)).length) c7)), (8, (.slice A10 (((l2 ++ beh 24)).length) c11)), (9, (.slice Ac (cs.length + 3) cc)), (12, .int .i64 0), (13, .int .i64 (k : Int))]) (fun k => [rowR v13 5 1 ((wbytes (picked (storesE 0 (loadD l1) (wordsL l2 m2)).2.ws (pkC (storesE 0 (loadD l1) (wordsL l2 m2)).2.ws cs))).length) ((wbytes (picked (storesE 0 (loadD l1) (wordsL l2 m2)).2.ws (pkC (storesE 0 (loadD l1) (wordsL l2 m2)).2.ws cs))).map bv), Dev p8 y12 ((storesE 0 (loadD l1) (wordsL l2 m2)).2), rowR (.slice Ac (cs.length + 3) cc) 3 1 (cs.length + 3) ((cs ++ ex3).map (Value.int .i64)), rowR (.slice A10 (((l2 ++ beh 24)).length) c11) 5 1 (((l2 ++ beh 24)).length) (((l2 ++ beh 24)).map bv), rowR (.slice A6 (((l1 ++ beh 24)).length) c7) 5 1 (((l1 ++ beh 24)).length) (((l1 ++ beh 24)).map bv)]) (fun k => cs.length - k) 0 (Nat.zero_le _) (Sub.cons rfl (Sub.cons rfl (Sub.cons rfl (Sub.cons rfl (Sub.cons rfl (Sub.cons rfl (Sub.cons rfl (Sub.cons rfl Sub.nil)))))))) (List.Perm.refl _) ?_
 intro k hs
 refine At.seq ?_
 refine tR ?_
 refine tM rfl rfl ?_
 refine tM rfl rfl ?_
 refine At.val (Val.lenRd hc Try.underlying23 rfl) rfl rfl rfl ?_
 refine At.val (Val.bin rfl rfl rfl) rfl rfl rfl ?_
 refine tE ?_
 refine At.cond rfl (fun h14 => ?_) (fun h14 => ?_)
 ·skip
  try simp only [hasB, isSizeB, Bool.not_eq_true', Bool.not_eq_false', bne_iff_ne, ne_eq, bne_eq_false_iff_eq, beq_iff_eq, beq_eq_false_iff_ne, decide_eq_true_eq, decide_eq_false_iff_not, gt_iff_lt, ge_iff_le] at h14
  obtain ⟨z, hz⟩ : ∃ z, cs[k]? = some z := ⟨_, List.getElem?_eq_getElem (by omega)⟩
  refine At.skipC ?_
  refine At.thenN ?_
  refine At.seq ?_
  refine At.block ?_
  refine At.seq ?_
  refine At.quiet rfl (by decide +kernel) ?_
  refine qM rfl rfl ?_
  refine qM rfl rfl ?_
  refine QAt.val (Val.indexRow (i := 2) (k) (by omega) Try.underlying23 Try.sizeOf3 rfl rfl rfl (by omega) (by omega)) rfl rfl rfl ?_
  refine QAt.val (Val.loadRow (i := 2) (u := .int .i64 z) Try.isAgg3 rfl rfl (by rw [List.getElem?_map, List.getElem?_append_left (by omega), hz]; rfl)) rfl rfl rfl ?_
  refine qM rfl rfl ?_
  refine qM rfl rfl ?_
  refine QAt.idxF (f := Value.int .i64) hc Try.underlying23 Try.sizeOf3 rfl rfl (by omega) (by omega) rfl rfl (fun b9 o9 q9 hq9 hc9 => ?_)
  obtain rfl : z = q9 := Option.some.inj (hz.symm.trans hq9)
  refine QAt.val (Val.loadOld Try.isAgg3 rfl hc9 (fun h => h)) rfl rfl rfl ?_
  refine QAt.val (Val.bin rfl rfl rfl) rfl rfl rfl ?_
  rw [bne_self_eq_false]
  refine QAt.fin ?_
  refine At.thenN ?_
  refine At.condF rfl ?_
  refine At.skipC ?_
  refine At.blkN ?_
  refine At.thenN ?_
  refine At.region ?_
  refine tM rfl rfl ?_
  first | refine At.val (Val.addI rfl rfl (by omega) (by omega)) rfl rfl rfl ?_ | refine At.val (Val.bin rfl rfl rfl) rfl rfl rfl ?_
  refine tA rfl rfl ?_
  refine tE ?_
  exact At.again (k + 1) (show k + 1 ≤ _ by omega) (by omega) (Sub.cons rfl (Sub.cons rfl (Sub.cons rfl (Sub.cons rfl (Sub.cons rfl (Sub.cons rfl (Sub.cons rfl (Sub.cons (congrArg (fun z => some (Value.int IntKind.i64 z)) (by omega)) Sub.nil)))))))) (List.Perm.refl _)
 ·skip
  try simp only [hasB, isSizeB, Bool.not_eq_true', Bool.not_eq_false', bne_iff_ne, ne_eq, bne_eq_false_iff_eq, beq_iff_eq, beq_eq_false_iff_ne, decide_eq_true_eq, decide_eq_false_iff_not, gt_iff_lt, ge_iff_le] at h14
  refine At.exitC ?_
  refine At.thenX ?_
  refine At.thenX ?_
  refine At.blkX ?_
  refine At.thenN ?_
  refine tR ?_
  refine tM rfl rfl ?_
  refine At.val (Val.lenRd hc Try.underlying23 rfl) rfl rfl rfl ?_
  refine tA rfl rfl ?_
  refine tE ?_
  refine tR ?_
  refine tM rfl rfl ?_
  refine At.val (Val.bin rfl rfl rfl) rfl rfl rfl ?_
  rw [show ((0 : Int) == 0) = true from rfl]
  refine tM rfl rfl ?_
  refine At.yes rfl rfl ?_
  refine tM rfl rfl ?_
  refine At.yes rfl rfl ?_
  refine tM rfl rfl ?_
  refine At.yes rfl rfl ?_
  refine At.callN (fun w hw => roomy_n _ l1 w (hv.mod hw.mod) (by omega)) Try.call34 rfl rfl (fun v15 => ?_)
  refine At.yes rfl rfl ?_
  refine At.callP (fun w hw => sameBytes_p _ _ (l1 ++ beh 24) (l1 ++ beh 24) w (row_rd (hw.row (i := 5) rfl) (by decide)) (row_rd (hw.row (i := 0) rfl) (by decide)) (by omega) (by omega)) Try.call32 rfl rfl ?_
  rw [decide_eq_true rfl]
  ·skip
   refine At.val (Val.pickT rfl rfl) rfl rfl rfl ?_
   refine tM rfl rfl ?_
   refine At.yes rfl rfl ?_
   refine tM rfl rfl ?_
   refine At.yes rfl rfl ?_
   refine tM rfl rfl ?_
   refine At.yes rfl rfl ?_
   refine At.callN (fun w hw => roomy_n _ l2 w (hu.mod hw.mod) (by omega)) Try.call34 rfl rfl (fun v16 => ?_)
   refine At.yes rfl rfl ?_
   refine At.callP (fun w hw => sameBytes_p _ _ (l2 ++ beh 24) (l2 ++ beh 24) w (row_rd (hw.row (i := 5) rfl) (by decide)) (row_rd (hw.row (i := 0) rfl) (by decide)) (by omega) (by omega)) Try.call32 rfl rfl ?_
   rw [decide_eq_true rfl]
   ·skip
    refine At.val (Val.pickT rfl rfl) rfl rfl rfl ?_
    refine tM rfl rfl ?_
    refine At.yes rfl rfl ?_
    refine tM rfl rfl ?_
    refine At.yes rfl rfl ?_
    refine tM rfl rfl ?_
    refine At.yes rfl rfl ?_
    refine At.val (Val.indexRow (i := 4) (cs.length) (by omega) Try.underlying23 Try.sizeOf3 rfl rfl rfl (by omega) (by omega)) rfl rfl rfl ?_
    refine At.yes rfl rfl ?_
    refine At.val (Val.loadRow (i := 4) (u := .int .i64 71) Try.isAgg3 rfl rfl (by rw [List.getElem?_map, List.getElem?_append_right (by omega), show cs.length - cs.length = 0 from by omega]; rfl)) rfl rfl rfl ?_
    refine At.yes rfl rfl ?_
    refine At.val (Val.bin rfl rfl rfl) rfl rfl rfl ?_
    rw [beq_self_eq_true]
    refine At.val (Val.pickT rfl rfl) rfl rfl rfl ?_
    refine tM rfl rfl ?_
    refine At.yes rfl rfl ?_
    refine tM rfl rfl ?_
    refine At.yes rfl rfl ?_
    refine tM rfl rfl ?_
    refine At.yes rfl rfl ?_
    first | refine At.val (Val.addI rfl rfl (by omega) (by omega)) rfl rfl rfl ?_ | refine At.val (Val.bin rfl rfl rfl) rfl rfl rfl ?_
    refine At.yes rfl rfl ?_
    refine At.val (Val.indexRow (i := 4) (cs.length + 1) (by omega) Try.underlying23 Try.sizeOf3 rfl rfl rfl (by omega) (by omega)) rfl rfl rfl ?_
    refine At.yes rfl rfl ?_
    refine At.val (Val.loadRow (i := 4) (u := .int .i64 72) Try.isAgg3 rfl rfl (by rw [List.getElem?_map, List.getElem?_append_right (by omega), show cs.length + 1 - cs.length = 1 from by omega]; rfl)) rfl rfl rfl ?_
    refine At.yes rfl rfl ?_
    refine At.val (Val.bin rfl rfl rfl) rfl rfl rfl ?_
    rw [beq_self_eq_true]
    refine At.val (Val.pickT rfl rfl) rfl rfl rfl ?_
    refine tM rfl rfl ?_
    refine At.yes rfl rfl ?_
    refine tM rfl rfl ?_
    refine At.yes rfl rfl ?_
    refine tM rfl rfl ?_
    refine At.yes rfl rfl ?_
    first | refine At.val (Val.addI rfl rfl (by omega) (by omega)) rfl rfl rfl ?_ | refine At.val (Val.bin rfl rfl rfl) rfl rfl rfl ?_
    refine At.yes rfl rfl ?_
    refine At.val (Val.indexRow (i := 4) (cs.length + 2) (by omega) Try.underlying23 Try.sizeOf3 rfl rfl rfl (by omega) (by omega)) rfl rfl rfl ?_
    refine At.yes rfl rfl ?_
    refine At.val (Val.loadRow (i := 4) (u := .int .i64 73) Try.isAgg3 rfl rfl (by rw [List.getElem?_map, List.getElem?_append_right (by omega), show cs.length + 2 - cs.length = 2 from by omega]; rfl)) rfl rfl rfl ?_
    refine At.yes rfl rfl ?_
    refine At.val (Val.bin rfl rfl rfl) rfl rfl rfl ?_
    rw [beq_self_eq_true]
    refine At.val (Val.pickT rfl rfl) rfl rfl rfl ?_
    refine tA rfl rfl ?_
    refine tE ?_
    refine At.retC ?_
    refine At.ret1 (.inl rfl) rfl rfl rfl (fun w hw => ?_)
    exact ⟨rfl, hw.mod⟩

end Go.Proofs.Ytgighokkflchmaa
