/- PmemApart: keptDoubts. -/
import Derived.Test.YtgighokkflchmaaA2
set_option linter.unusedVariables false
set_option linter.unusedSimpArgs false
namespace Go.Proofs.Ytgighokkflchmaa
open Go Go.Wk
theorem rdW_take {w : World} {A : Option Addr} {c h : Nat} {l : List (BitVec 64)} (hr : RdW w (.slice A l.length c) l) (hh : h ≤ l.length) : RdW w (.slice (cutA A c 0 1) (h - 0) (c - 0)) (l.take h) := by
  obtain ⟨A', c', e, g2, g3, g4, g5, g6⟩ := hr
  simp only [Value.slice.injEq, true_and] at e
  obtain ⟨rfl, rfl⟩ := e
  have hA : cutA A c 0 1 = A := by
    cases A with
    | none => rfl
    | some a => obtain ⟨b, o, s⟩ := a; unfold cutA; simp
  rw [hA, Nat.sub_zero, Nat.sub_zero]
  refine ⟨A, c, by rw [List.length_take, Nat.min_eq_left hh], fun j u hj => ?_, by rw [List.length_map, Nat.mul_one], by rw [List.length_take]; omega, fun e => ?_, g6⟩
  · rw [List.map_take, List.getElem?_take] at hj
    split at hj
    · exact g2 j u hj
    · cases hj
  · obtain ⟨h1, h2⟩ := g5 e
    exact ⟨by rw [List.length_take]; omega, h2⟩
def fuseI' (z : Int) : Int := if z < 0 then -(z + 1) else z

theorem rd_one {w : World} {v : Value} {sz n : Nat} {xs : List Value} (h : Rd w v sz n xs) : v.oneCell' = true := by obtain ⟨A, c, rfl, _⟩ := h; rfl
theorem more_at {m k j : Nat} {u : Value} (hk : k < 3) (hu : (oneM m)[j]? = some u) : (moreM m 3)[k * 3 + j]? = some u := by
  have hj : j < 3 := (List.getElem?_eq_some_iff.1 hu).1
  have e : moreM m 3 = oneM m ++ oneM m ++ oneM m := by simp [moreM, List.replicate]
  rw [e]
  have hl : (oneM m).length = 3 := rfl
  match k, hk with
  | 0, _ => rw [Nat.zero_mul, Nat.zero_add, List.append_assoc, List.getElem?_append_left (by omega)]; exact hu
  | 1, _ => rw [List.getElem?_append_left (by rw [List.length_append]; omega), List.getElem?_append_right (by omega), hl, show 1 * 3 + j - 3 = j by omega]; exact hu
  | 2, _ => rw [List.getElem?_append_right (by rw [List.length_append]; omega), List.length_append, hl, show 2 * 3 + j - (3 + 3) = j by omega]; exact hu
theorem tdf {w : World} {F : List RdF} (h : ∀ f ∈ F, Rd w f.v f.sz f.n f.xs) {v : Value} {sz n : Nat} {xs : List Value} (hm : (⟨v, sz, n, xs⟩ : RdF) ∈ F) : Rd w v sz n xs := h _ hm

theorem keptDoubts_p (v : Value) (X : List Td) (F : List RdF) (w : World) (hv : Rd w v 5 X.length (X.flatMap tdC)) (hF : ∀ f ∈ F, Rd w f.v f.sz f.n f.xs) (hX : ∀ t ∈ X, TdOk t F) (hl : X.length ≤ 1000) :
    PureC Try.prog 15 [v] (.bool true) w := by
 refine enter0 Try.func15 rfl Try.ntmps15 rfl ?_
 simp only [envOf]
 refine tR ?_
 refine tA rfl rfl ?_
 refine tE ?_
 refine At.seq ?_
 refine tR ?_
 refine tA rfl rfl ?_
 refine tE ?_
 refine At.block ?_
 skip
 refine At.loop (σ := Nat) (fun i => i ≤ X.length) (fun i => [(0, v), (3, .int .i64 (i : Int))]) (fun i => []) (fun i => X.length - i) 0 (Nat.zero_le _) (Sub.cons rfl (Sub.cons rfl Sub.nil)) (List.Perm.refl _) ?_
 intro i hs
 refine At.seq ?_
 refine tR ?_
 refine tM rfl rfl ?_
 refine tM rfl rfl ?_
 refine At.val (Val.lenRd hv Try.underlying29 rfl) rfl rfl rfl ?_
 refine At.val (Val.bin rfl rfl rfl) rfl rfl rfl ?_
 refine tE ?_
 refine At.cond rfl (fun h1 => ?_) (fun h1 => ?_)
 ·skip
  try simp only [hasB, isSizeB, Bool.not_eq_true', Bool.not_eq_false', bne_iff_ne, ne_eq, bne_eq_false_iff_eq, beq_iff_eq, beq_eq_false_iff_ne, decide_eq_true_eq, decide_eq_false_iff_not, gt_iff_lt, ge_iff_le] at h1
  obtain ⟨t, ht⟩ : ∃ t, X[i]? = some t := ⟨_, List.getElem?_eq_getElem (by omega)⟩
  have hok := hX t (List.mem_of_getElem? ht)
  have hm := hok.m
  have hK := hok.K
  have hav := hok.av
  have rl := tdf hF hok.fl
  have rg := tdf hF hok.fg
  have rn := tdf hF hok.fnn
  have ra := tdf hF hok.faa
  refine At.skipC ?_
  refine At.thenN ?_
  refine At.seq ?_
  refine At.block ?_
  refine tR ?_
  refine tM rfl rfl ?_
  refine tM rfl rfl ?_
  refine At.idxRd hv Try.underlying29 Try.sizeOf47 rfl rfl (by omega) (by omega) rfl rfl (fun ab ao ah => ?_)
  refine At.val (Val.field ((ao + 4)) rfl fo_47_4 rfl) rfl rfl rfl ?_
  refine At.val (Val.loadOld Try.isAgg3 rfl (ah 4 _ (flat_at (f := tdC) (n := 5) (fun _ => rfl) ht (k := 4) rfl)) (fun h => h)) rfl rfl rfl ?_
  refine tA rfl rfl ?_
  refine tE ?_
  refine tR ?_
  refine tM rfl rfl ?_
  refine tM rfl rfl ?_
  refine At.idxRd hv Try.underlying29 Try.sizeOf47 rfl rfl (by omega) (by omega) rfl rfl (fun ab ao ah => ?_)
  refine At.val (Val.field ((ao + 0)) rfl fo_47_0 rfl) rfl rfl rfl ?_
  refine At.val (Val.loadOld Try.isAgg44 rfl (ah 0 _ (flat_at (f := tdC) (n := 5) (fun _ => rfl) ht (k := 0) rfl)) (fun h => h)) rfl rfl rfl ?_
  refine At.val (Val.lenRd rl Try.underlying44 rfl) rfl rfl rfl ?_
  refine tA rfl rfl ?_
  refine tE ?_
  refine At.seq ?_
  refine tR ?_
  refine tA rfl rfl ?_
  refine tE ?_
  refine At.block ?_
  skip
  refine At.loop (σ := Nat) (fun k => k ≤ (t.Q.length + 3)) (fun k => [(0, v), (3, .int .i64 (i : Int)), (4, .int .i64 (t.m : Int)), (5, .int .i64 (t.Q.length : Int)), (6, .int .i64 (k : Int))]) (fun k => []) (fun k => (t.Q.length + 3) - k) 0 (Nat.zero_le _) (Sub.cons rfl (Sub.cons rfl (Sub.cons rfl (Sub.cons rfl (Sub.cons rfl Sub.nil))))) (List.Perm.refl _) ?_
  intro k hs
  refine At.seq ?_
  refine tR ?_
  refine tM rfl rfl ?_
  refine tM rfl rfl ?_
  refine tM rfl rfl ?_
  refine At.idxRd hv Try.underlying29 Try.sizeOf47 rfl rfl (by omega) (by omega) rfl rfl (fun ab ao ah => ?_)
  refine At.val (Val.field ((ao + 1)) rfl fo_47_1 rfl) rfl rfl rfl ?_
  refine At.val (Val.loadOld Try.isAgg44 rfl (ah 1 _ (flat_at (f := tdC) (n := 5) (fun _ => rfl) ht (k := 1) rfl)) (fun h => h)) rfl rfl rfl ?_
  refine At.val (Val.lenRd rg Try.underlying44 rfl) rfl rfl rfl ?_
  refine At.val (Val.bin rfl rfl rfl) rfl rfl rfl ?_
  refine tE ?_
  refine At.cond rfl (fun h2 => ?_) (fun h2 => ?_)
  ·skip
   try simp only [hasB, isSizeB, Bool.not_eq_true', Bool.not_eq_false', bne_iff_ne, ne_eq, bne_eq_false_iff_eq, beq_iff_eq, beq_eq_false_iff_ne, decide_eq_true_eq, decide_eq_false_iff_not, gt_iff_lt, ge_iff_le] at h2
   refine At.skipC ?_
   refine At.thenN ?_
   refine At.seq ?_
   refine At.block ?_
   refine At.seq ?_
   by_cases hkK : k < t.Q.length
   ·skip
    obtain ⟨⟨⟨xa, xo, xn⟩, xv⟩, hx⟩ : ∃ x, t.Q[k]? = some x := ⟨_, List.getElem?_eq_getElem (by omega)⟩
    obtain ⟨e1, e2, e3, hxl⟩ := hok.mark k _ hx
    simp only at e1 e2 e3 hxl
    obtain ⟨j, hj⟩ : ∃ j, j = xn.length := ⟨_, rfl⟩
    rw [← hj] at e3 hxl
    subst e1 e2 e3
    have rx : RdW w xv (mks t.m k j) := tdf hF (hok.fn _ (List.mem_of_getElem? hx))
    have hxo := rd_one rx
    refine At.region ?_
    refine tM rfl rfl ?_
    refine tM rfl rfl ?_
    refine At.idxRd hv Try.underlying29 Try.sizeOf47 rfl rfl (by omega) (by omega) rfl rfl (fun ab ao ah => ?_)
    refine At.val (Val.field ((ao + 1)) rfl fo_47_1 rfl) rfl rfl rfl ?_
    refine At.val (Val.loadOld Try.isAgg44 rfl (ah 1 _ (flat_at (f := tdC) (n := 5) (fun _ => rfl) ht (k := 1) rfl)) (fun h => h)) rfl rfl rfl ?_
    refine tM rfl rfl ?_
    refine At.idxRd rg Try.underlying44 Try.sizeOf74 rfl rfl (by omega) (by omega) rfl rfl (fun gb go gh => ?_)
    refine At.val (Val.loadOldPart (vs := [.int .i64 (-1000 * (t.m : Int) - (k : Int) - 1), b64 (BitVec.ofNat 64 (1000 * t.m + k)), xv]) Try.isAgg74 Try.sizeOf74 rfl rfl (fun j u hj => gh j u (by rw [List.getElem?_append_left (by rw [dC_length]; have := (List.getElem?_eq_some_iff.1 hj).1; simp at this; omega)]; exact dC_at hx hj)) (fun h => h)) rfl rfl rfl ?_
    refine At.alloc Try.zeroValue74 rfl rfl (fun b3 => ?_)
    refine At.storeAll (i := 0) Try.sizeOf74 rfl rfl rfl (by intro u hu; simp only [oneM, List.mem_cons, List.not_mem_nil, or_false] at hu; rcases hu with rfl | rfl | rfl <;> first | rfl | assumption) rfl rfl ?_
    simp only [sc0, scS]
    refine tE ?_
    refine At.seq ?_
    refine tR ?_
    refine tM rfl rfl ?_
    refine tM rfl rfl ?_
    refine At.val (Val.bin rfl rfl rfl) rfl rfl rfl ?_
    rw [decide_eq_false (show ¬ ((k : Int) ≥ (t.Q.length : Int)) from by omega)]
    refine tM rfl rfl ?_
    refine At.no rfl rfl rfl rfl ?_
    refine At.no rfl rfl rfl rfl ?_
    refine At.no rfl rfl rfl rfl ?_
    refine At.no rfl rfl rfl rfl ?_
    refine At.no rfl rfl rfl rfl ?_
    refine At.no rfl rfl rfl rfl ?_
    refine At.no rfl rfl rfl rfl ?_
    refine At.noU rfl rfl rfl ?_
    refine At.noU rfl rfl rfl ?_
    refine At.noU rfl rfl rfl ?_
    refine At.noU rfl rfl rfl ?_
    refine At.noU rfl rfl rfl ?_
    refine At.no rfl rfl rfl rfl ?_
    refine At.no rfl rfl rfl rfl ?_
    refine At.noU rfl rfl rfl ?_
    refine At.noU rfl rfl rfl ?_
    refine At.noU rfl rfl rfl ?_
    refine At.noU rfl rfl rfl ?_
    refine At.no rfl rfl rfl rfl ?_
    refine At.val (Val.pickF rfl rfl) rfl rfl rfl ?_
    refine tE ?_
    refine At.condF rfl ?_
    refine At.skipC ?_
    refine At.thenN ?_
    refine tR ?_
    refine tM rfl rfl ?_
    refine tM rfl rfl ?_
    refine At.val (Val.bin rfl rfl rfl) rfl rfl rfl ?_
    rw [decide_eq_true (show ((k : Int) < (t.Q.length : Int)) from by omega)]
    refine tM rfl rfl ?_
    refine At.yes rfl rfl ?_
    refine At.val (Val.field 0 rfl fo_74_0 rfl) rfl rfl rfl ?_
    refine At.yes rfl rfl ?_
    refine At.val (Val.load (i := 0) Try.isAgg3 rfl rfl rfl) rfl rfl rfl ?_
    refine At.yes rfl rfl ?_
    refine tM rfl rfl ?_
    refine At.yes rfl rfl ?_
    first | refine At.val (Val.mulI rfl rfl (by omega) (by omega)) rfl rfl rfl ?_ | refine At.val (Val.bin rfl rfl rfl) rfl rfl rfl ?_
    refine At.yes rfl rfl ?_
    refine tM rfl rfl ?_
    refine At.yes rfl rfl ?_
    first | refine At.val (Val.subI rfl rfl (by omega) (by omega)) rfl rfl rfl ?_ | refine At.val (Val.bin rfl rfl rfl) rfl rfl rfl ?_
    refine At.yes rfl rfl ?_
    first | refine At.val (Val.subI rfl rfl (by omega) (by omega)) rfl rfl rfl ?_ | refine At.val (Val.bin rfl rfl rfl) rfl rfl rfl ?_
    refine At.yes rfl rfl ?_
    refine At.val (Val.bin rfl rfl rfl) rfl rfl rfl ?_
    rw [bne_self_eq_false]
    refine At.yes rfl rfl ?_
    refine tM rfl rfl ?_
    refine At.yes rfl rfl ?_
    refine At.val (Val.field 1 rfl fo_74_1 rfl) rfl rfl rfl ?_
    refine At.yes rfl rfl ?_
    refine At.val (Val.load (i := 0) Try.isAgg32 rfl rfl rfl) rfl rfl rfl ?_
    refine At.yes rfl rfl ?_
    refine tM rfl rfl ?_
    refine At.yes rfl rfl ?_
    first | refine At.val (Val.mulI rfl rfl (by omega) (by omega)) rfl rfl rfl ?_ | refine At.val (Val.bin rfl rfl rfl) rfl rfl rfl ?_
    refine At.yes rfl rfl ?_
    refine tM rfl rfl ?_
    refine At.yes rfl rfl ?_
    first | refine At.val (Val.addI rfl rfl (by omega) (by omega)) rfl rfl rfl ?_ | refine At.val (Val.bin rfl rfl rfl) rfl rfl rfl ?_
    refine At.yes rfl rfl ?_
    refine At.val (Val.toU Try.underlying3 Try.underlying32 rfl (by omega) (by omega)) rfl rfl rfl ?_
    rw [show Value.int .u64 (1000 * (t.m : Int) + (k : Int)) = b64 (BitVec.ofNat 64 (1000 * t.m + k)) from by rw [b64, ofN_int (by omega)] <;> rfl]
    refine At.yes rfl rfl ?_
    refine At.val (Val.bin rfl rfl rfl) rfl rfl rfl ?_
    rw [bne_self_eq_false]
    refine At.yes rfl rfl ?_
    refine At.val (Val.pickF rfl rfl) rfl rfl rfl ?_
    refine At.yes rfl rfl ?_
    refine tM rfl rfl ?_
    refine At.yes rfl rfl ?_
    refine At.val (Val.field 2 rfl fo_74_2 rfl) rfl rfl rfl ?_
    refine At.yes rfl rfl ?_
    refine At.val (Val.load (i := 0) Try.isAgg66 rfl rfl rfl) rfl rfl rfl ?_
    refine At.yes rfl rfl ?_
    refine tM rfl rfl ?_
    refine At.yes rfl rfl ?_
    refine tM rfl rfl ?_
    refine At.yes rfl rfl ?_
    refine At.callP (fun w hw => marked_p _ t.m k j w (rx.mod hw.mod) hm (by omega) hxl) Try.call31 rfl rfl ?_
    refine At.yes rfl rfl ?_
    refine At.val (Val.not rfl) rfl rfl rfl ?_
    refine At.yes rfl rfl ?_
    refine At.val (Val.pickF rfl rfl) rfl rfl rfl ?_
    refine At.val (Val.pickT rfl rfl) rfl rfl rfl ?_
    refine tE ?_
    refine At.condF rfl ?_
    refine At.skipC ?_
    refine At.blkN ?_
    refine At.thenN ?_
    refine At.drop 0 ?_
    simp only [ec0, ecS]
    refine At.region ?_
    refine tM rfl rfl ?_
    first | refine At.val (Val.addI rfl rfl (by omega) (by omega)) rfl rfl rfl ?_ | refine At.val (Val.bin rfl rfl rfl) rfl rfl rfl ?_
    refine tA rfl rfl ?_
    refine tE ?_
    exact At.again (k + 1) (show k + 1 ≤ _ by omega) (by omega) (Sub.cons rfl (Sub.cons rfl (Sub.cons rfl (Sub.cons rfl (Sub.cons (congrArg (fun z => some (Value.int IntKind.i64 z)) (by omega)) Sub.nil))))) (List.Perm.refl _)
   ·skip
    refine At.region ?_
    refine tM rfl rfl ?_
    refine tM rfl rfl ?_
    refine At.idxRd hv Try.underlying29 Try.sizeOf47 rfl rfl (by omega) (by omega) rfl rfl (fun ab ao ah => ?_)
    refine At.val (Val.field ((ao + 1)) rfl fo_47_1 rfl) rfl rfl rfl ?_
    refine At.val (Val.loadOld Try.isAgg44 rfl (ah 1 _ (flat_at (f := tdC) (n := 5) (fun _ => rfl) ht (k := 1) rfl)) (fun h => h)) rfl rfl rfl ?_
    refine tM rfl rfl ?_
    refine At.idxRd rg Try.underlying44 Try.sizeOf74 rfl rfl (by omega) (by omega) rfl rfl (fun gb go gh => ?_)
    refine At.val (Val.loadOldPart (vs := (oneM t.m)) Try.isAgg74 Try.sizeOf74 rfl rfl (fun j u hj => gh j u (by rw [List.getElem?_append_right (by rw [dC_length]; omega), dC_length, show (k : Int).toNat * 3 + j - t.Q.length * 3 = (k - t.Q.length) * 3 + j from by omega]; exact more_at (by omega) hj)) (fun h => h)) rfl rfl rfl ?_
    refine At.alloc Try.zeroValue74 rfl rfl (fun b4 => ?_)
    refine At.storeAll (i := 0) Try.sizeOf74 rfl rfl rfl (by intro u hu; simp only [oneM, List.mem_cons, List.not_mem_nil, or_false] at hu; rcases hu with rfl | rfl | rfl <;> first | rfl | assumption) rfl rfl ?_
    simp only [sc0, scS]
    refine tE ?_
    refine At.seq ?_
    refine tR ?_
    refine tM rfl rfl ?_
    refine tM rfl rfl ?_
    refine At.val (Val.bin rfl rfl rfl) rfl rfl rfl ?_
    rw [decide_eq_true (show ((k : Int) ≥ (t.Q.length : Int)) from by omega)]
    refine tM rfl rfl ?_
    refine At.yes rfl rfl ?_
    refine At.val (Val.field 0 rfl fo_74_0 rfl) rfl rfl rfl ?_
    refine At.yes rfl rfl ?_
    refine At.val (Val.load (i := 0) Try.isAgg3 rfl rfl rfl) rfl rfl rfl ?_
    refine At.yes rfl rfl ?_
    refine tM rfl rfl ?_
    refine At.yes rfl rfl ?_
    refine At.val (Val.neg rfl) rfl rfl rfl ?_
    rw [wrap_i64 (n := 0 - (t.m : Int)) (by omega) (by omega)]
    refine At.yes rfl rfl ?_
    first | refine At.val (Val.subI rfl rfl (by omega) (by omega)) rfl rfl rfl ?_ | refine At.val (Val.bin rfl rfl rfl) rfl rfl rfl ?_
    refine At.yes rfl rfl ?_
    refine At.val (Val.bin rfl rfl rfl) rfl rfl rfl ?_
    rw [bne_self_eq_false]
    refine At.yes rfl rfl ?_
    refine tM rfl rfl ?_
    refine At.yes rfl rfl ?_
    refine At.val (Val.field 1 rfl fo_74_1 rfl) rfl rfl rfl ?_
    refine At.yes rfl rfl ?_
    refine At.val (Val.load (i := 0) Try.isAgg32 rfl rfl rfl) rfl rfl rfl ?_
    refine At.yes rfl rfl ?_
    refine tM rfl rfl ?_
    refine At.yes rfl rfl ?_
    refine At.val (Val.toU Try.underlying3 Try.underlying32 rfl (by omega) (by omega)) rfl rfl rfl ?_
    rw [show Value.int .u64 ((t.m : Int)) = b64 (BitVec.ofNat 64 (t.m)) from by rw [b64, ofN_int (by omega)] <;> rfl]
    refine At.yes rfl rfl ?_
    refine At.val (Val.bin rfl rfl rfl) rfl rfl rfl ?_
    rw [bne_self_eq_false]
    refine At.yes rfl rfl ?_
    refine At.val (Val.pickF rfl rfl) rfl rfl rfl ?_
    refine At.yes rfl rfl ?_
    refine tM rfl rfl ?_
    refine At.yes rfl rfl ?_
    refine At.val (Val.field 2 rfl fo_74_2 rfl) rfl rfl rfl ?_
    refine At.yes rfl rfl ?_
    refine At.val (Val.load (i := 0) Try.isAgg66 rfl rfl rfl) rfl rfl rfl ?_
    refine At.yes rfl rfl ?_
    refine At.val (Val.len (bt := #[]) Try.underlying66 rfl) rfl rfl rfl ?_
    refine At.yes rfl rfl ?_
    refine At.val (Val.bin rfl rfl rfl) rfl rfl rfl ?_
    rw [show (((0 : Nat) : Int) != 0) = false from rfl]
    refine At.yes rfl rfl ?_
    refine At.val (Val.pickF rfl rfl) rfl rfl rfl ?_
    refine At.val (Val.pickT rfl rfl) rfl rfl rfl ?_
    refine tE ?_
    refine At.condF rfl ?_
    refine At.skipC ?_
    refine At.thenN ?_
    refine tR ?_
    refine tM rfl rfl ?_
    refine tM rfl rfl ?_
    refine At.val (Val.bin rfl rfl rfl) rfl rfl rfl ?_
    rw [decide_eq_false (show ¬ ((k : Int) < (t.Q.length : Int)) from by omega)]
    refine tM rfl rfl ?_
    refine At.no rfl rfl rfl rfl ?_
    refine At.no rfl rfl rfl rfl ?_
    refine At.no rfl rfl rfl rfl ?_
    refine At.no rfl rfl rfl rfl ?_
    refine At.no rfl rfl rfl rfl ?_
    refine At.no rfl rfl rfl rfl ?_
    refine At.no rfl rfl rfl rfl ?_
    refine At.no rfl rfl rfl rfl ?_
    refine At.no rfl rfl rfl rfl ?_
    refine At.noU rfl rfl rfl ?_
    refine At.noU rfl rfl rfl ?_
    refine At.noU rfl rfl rfl ?_
    refine At.noU rfl rfl rfl ?_
    refine At.noU rfl rfl rfl ?_
    refine At.noU rfl rfl rfl ?_
    refine At.noU rfl rfl rfl ?_
    refine At.noU rfl rfl rfl ?_
    refine At.no rfl rfl rfl rfl ?_
    refine At.no rfl rfl rfl rfl ?_
    refine At.noU rfl rfl rfl ?_
    refine At.noU rfl rfl rfl ?_
    refine At.noU rfl rfl rfl ?_
    refine At.noU rfl rfl rfl ?_
    refine At.noU rfl rfl rfl ?_
    refine At.noU rfl rfl rfl ?_
    refine At.no rfl rfl rfl rfl ?_
    refine At.val (Val.pickF rfl rfl) rfl rfl rfl ?_
    refine tE ?_
    refine At.condF rfl ?_
    refine At.skipC ?_
    refine At.blkN ?_
    refine At.thenN ?_
    refine At.drop 0 ?_
    simp only [ec0, ecS]
    refine At.region ?_
    refine tM rfl rfl ?_
    first | refine At.val (Val.addI rfl rfl (by omega) (by omega)) rfl rfl rfl ?_ | refine At.val (Val.bin rfl rfl rfl) rfl rfl rfl ?_
    refine tA rfl rfl ?_
    refine tE ?_
    exact At.again (k + 1) (show k + 1 ≤ _ by omega) (by omega) (Sub.cons rfl (Sub.cons rfl (Sub.cons rfl (Sub.cons rfl (Sub.cons (congrArg (fun z => some (Value.int IntKind.i64 z)) (by omega)) Sub.nil))))) (List.Perm.refl _)
  ·skip
   try simp only [hasB, isSizeB, Bool.not_eq_true', Bool.not_eq_false', bne_iff_ne, ne_eq, bne_eq_false_iff_eq, beq_iff_eq, beq_eq_false_iff_ne, decide_eq_true_eq, decide_eq_false_iff_not, gt_iff_lt, ge_iff_le] at h2
   refine At.exitC ?_
   refine At.thenX ?_
   refine At.thenX ?_
   refine At.blkX ?_
   refine At.thenN ?_
   refine tR ?_
   refine tA rfl rfl ?_
   refine tE ?_
   refine At.block ?_
   skip
   refine At.loop (σ := Nat) (fun k => k ≤ t.Q.length) (fun k => [(0, v), (3, .int .i64 (i : Int)), (4, .int .i64 (t.m : Int)), (5, .int .i64 (t.Q.length : Int)), (8, .int .i64 (k : Int))]) (fun k => []) (fun k => t.Q.length - k) 0 (Nat.zero_le _) (Sub.cons rfl (Sub.cons rfl (Sub.cons rfl (Sub.cons rfl (Sub.cons rfl Sub.nil))))) (List.Perm.refl _) ?_
   intro k hs
   refine At.seq ?_
   refine tR ?_
   refine tM rfl rfl ?_
   refine tM rfl rfl ?_
   refine At.val (Val.bin rfl rfl rfl) rfl rfl rfl ?_
   refine tE ?_
   refine At.cond rfl (fun h5 => ?_) (fun h5 => ?_)
   ·skip
    try simp only [hasB, isSizeB, Bool.not_eq_true', Bool.not_eq_false', bne_iff_ne, ne_eq, bne_eq_false_iff_eq, beq_iff_eq, beq_eq_false_iff_ne, decide_eq_true_eq, decide_eq_false_iff_not, gt_iff_lt, ge_iff_le] at h5
    obtain ⟨⟨⟨xa, xo, xn⟩, xv⟩, hx⟩ : ∃ x, t.Q[k]? = some x := ⟨_, List.getElem?_eq_getElem (by omega)⟩
    obtain ⟨e1, e2, e3, hxl⟩ := hok.mark k _ hx
    simp only at e1 e2 e3 hxl
    obtain ⟨j, hj⟩ : ∃ j, j = xn.length := ⟨_, rfl⟩
    rw [← hj] at e3 hxl
    subst e1 e2 e3
    have rx : RdW w xv (mks t.m k j) := tdf hF (hok.fn _ (List.mem_of_getElem? hx))
    have hxo := rd_one rx
    refine At.skipC ?_
    refine At.thenN ?_
    refine At.seq ?_
    refine At.block ?_
    refine tR ?_
    refine tM rfl rfl ?_
    refine tM rfl rfl ?_
    refine At.idxRd hv Try.underlying29 Try.sizeOf47 rfl rfl (by omega) (by omega) rfl rfl (fun ab ao ah => ?_)
    refine At.val (Val.field ((ao + 0)) rfl fo_47_0 rfl) rfl rfl rfl ?_
    refine At.val (Val.loadOld Try.isAgg44 rfl (ah 0 _ (flat_at (f := tdC) (n := 5) (fun _ => rfl) ht (k := 0) rfl)) (fun h => h)) rfl rfl rfl ?_
    refine tM rfl rfl ?_
    refine At.idxRd rl Try.underlying44 Try.sizeOf74 rfl rfl (by omega) (by omega) rfl rfl (fun gb go gh => ?_)
    refine At.val (Val.loadOldPart (vs := [.int .i64 (-1000 * (t.m : Int) - (k : Int) - 1), b64 (BitVec.ofNat 64 (1000 * t.m + k)), xv]) Try.isAgg74 Try.sizeOf74 rfl rfl (fun j u hj => gh j u (dC_at hx hj)) (fun h => h)) rfl rfl rfl ?_
    refine At.alloc Try.zeroValue74 rfl rfl (fun b6 => ?_)
    refine At.storeAll (i := 0) Try.sizeOf74 rfl rfl rfl (by intro u hu; simp only [oneM, List.mem_cons, List.not_mem_nil, or_false] at hu; rcases hu with rfl | rfl | rfl <;> first | rfl | assumption) rfl rfl ?_
    simp only [sc0, scS]
    refine tE ?_
    refine At.seq ?_
    obtain ⟨av, hav2⟩ : ∃ a, t.av[k]? = some a := ⟨_, List.getElem?_eq_getElem (by omega)⟩
    have rav : RdW w av (mks t.m k j ++ ext t.m) := by
      have h9 := tdf hF (hok.fa k _ av hx hav2)
      unfold RdW
      rw [List.length_append, show (ext t.m).length = 3 from rfl]
      exact h9
    obtain ⟨Aa, c9, hva, _⟩ := id rav
    subst hva
    have hml := mks_len t.m k j
    have hel : (mks t.m k j ++ ext t.m).length = j + 3 := by rw [List.length_append, hml]; rfl
    refine At.region ?_
    refine tM rfl rfl ?_
    refine tM rfl rfl ?_
    refine At.idxRd hv Try.underlying29 Try.sizeOf47 rfl rfl (by omega) (by omega) rfl rfl (fun ab ao ah => ?_)
    refine At.val (Val.field ((ao + 3)) rfl fo_47_3 rfl) rfl rfl rfl ?_
    refine At.val (Val.loadOld Try.isAgg45 rfl (ah 3 _ (flat_at (f := tdC) (n := 5) (fun _ => rfl) ht (k := 3) rfl)) (fun h => h)) rfl rfl rfl ?_
    refine tM rfl rfl ?_
    refine At.idxRd ra Try.underlying45 Try.sizeOf66 rfl rfl (by omega) (by omega) rfl rfl (fun gb go gh => ?_)
    refine At.val (Val.loadOld Try.isAgg66 rfl (gh 0 _ (by rw [Nat.mul_one, Nat.add_zero]; exact hav2)) (fun h => h)) rfl rfl rfl ?_
    refine tA rfl rfl ?_
    refine tE ?_
    refine tR ?_
    refine tM rfl rfl ?_
    refine tM rfl rfl ?_
    refine At.idxRd hv Try.underlying29 Try.sizeOf47 rfl rfl (by omega) (by omega) rfl rfl (fun ab ao ah => ?_)
    refine At.val (Val.field ((ao + 2)) rfl fo_47_2 rfl) rfl rfl rfl ?_
    refine At.val (Val.loadOld Try.isAgg45 rfl (ah 2 _ (flat_at (f := tdC) (n := 5) (fun _ => rfl) ht (k := 2) rfl)) (fun h => h)) rfl rfl rfl ?_
    refine tM rfl rfl ?_
    refine At.idxRd rn Try.underlying45 Try.sizeOf66 rfl rfl (by omega) (by omega) rfl rfl (fun gb go gh => ?_)
    refine At.val (Val.loadOld Try.isAgg66 rfl (gh 0 _ (by rw [Nat.mul_one, Nat.add_zero, List.getElem?_map]; show (t.Q[k]?).map _ = _; rw [hx]; rfl)) (fun h => h)) rfl rfl rfl ?_
    refine At.val (Val.lenRd rx Try.underlying66 rfl) rfl rfl rfl ?_
    rw [hml]
    refine tA rfl rfl ?_
    refine tE ?_
    refine At.seq ?_
    refine tR ?_
    refine At.val (Val.field 0 rfl fo_74_0 rfl) rfl rfl rfl ?_
    refine At.val (Val.load (i := 0) Try.isAgg3 rfl rfl rfl) rfl rfl rfl ?_
    refine tM rfl rfl ?_
    first | refine At.val (Val.mulI rfl rfl (by omega) (by omega)) rfl rfl rfl ?_ | refine At.val (Val.bin rfl rfl rfl) rfl rfl rfl ?_
    refine tM rfl rfl ?_
    first | refine At.val (Val.subI rfl rfl (by omega) (by omega)) rfl rfl rfl ?_ | refine At.val (Val.bin rfl rfl rfl) rfl rfl rfl ?_
    first | refine At.val (Val.subI rfl rfl (by omega) (by omega)) rfl rfl rfl ?_ | refine At.val (Val.bin rfl rfl rfl) rfl rfl rfl ?_
    refine At.val (Val.bin rfl rfl rfl) rfl rfl rfl ?_
    rw [bne_self_eq_false]
    refine tM rfl rfl ?_
    refine At.yes rfl rfl ?_
    refine At.val (Val.field 1 rfl fo_74_1 rfl) rfl rfl rfl ?_
    refine At.yes rfl rfl ?_
    refine At.val (Val.load (i := 0) Try.isAgg32 rfl rfl rfl) rfl rfl rfl ?_
    refine At.yes rfl rfl ?_
    refine tM rfl rfl ?_
    refine At.yes rfl rfl ?_
    first | refine At.val (Val.mulI rfl rfl (by omega) (by omega)) rfl rfl rfl ?_ | refine At.val (Val.bin rfl rfl rfl) rfl rfl rfl ?_
    refine At.yes rfl rfl ?_
    refine tM rfl rfl ?_
    refine At.yes rfl rfl ?_
    first | refine At.val (Val.addI rfl rfl (by omega) (by omega)) rfl rfl rfl ?_ | refine At.val (Val.bin rfl rfl rfl) rfl rfl rfl ?_
    refine At.yes rfl rfl ?_
    refine At.val (Val.toU Try.underlying3 Try.underlying32 rfl (by omega) (by omega)) rfl rfl rfl ?_
    rw [show Value.int .u64 (1000 * (t.m : Int) + (k : Int)) = b64 (BitVec.ofNat 64 (1000 * t.m + k)) from by rw [b64, ofN_int (by omega)] <;> rfl]
    refine At.yes rfl rfl ?_
    refine At.val (Val.bin rfl rfl rfl) rfl rfl rfl ?_
    rw [bne_self_eq_false]
    refine At.val (Val.pickF rfl rfl) rfl rfl rfl ?_
    refine tM rfl rfl ?_
    refine At.yes rfl rfl ?_
    refine At.val (Val.field 2 rfl fo_74_2 rfl) rfl rfl rfl ?_
    refine At.yes rfl rfl ?_
    refine At.val (Val.load (i := 0) Try.isAgg66 rfl rfl rfl) rfl rfl rfl ?_
    refine At.yes rfl rfl ?_
    refine tM rfl rfl ?_
    refine At.yes rfl rfl ?_
    refine tM rfl rfl ?_
    refine At.yes rfl rfl ?_
    refine At.callP (fun w hw => marked_p _ t.m k j w (rx.mod hw.mod) hm (by omega) hxl) Try.call31 rfl rfl ?_
    refine At.yes rfl rfl ?_
    refine At.val (Val.not rfl) rfl rfl rfl ?_
    refine At.val (Val.pickF rfl rfl) rfl rfl rfl ?_
    refine tM rfl rfl ?_
    refine At.yes rfl rfl ?_
    refine tM rfl rfl ?_
    refine At.yes rfl rfl ?_
    refine tM rfl rfl ?_
    refine At.yes rfl rfl ?_
    refine At.idxRd hv Try.underlying29 Try.sizeOf47 rfl rfl (by omega) (by omega) rfl rfl (fun ab ao ah => ?_)
    refine At.yes rfl rfl ?_
    refine At.val (Val.field ((ao + 2)) rfl fo_47_2 rfl) rfl rfl rfl ?_
    refine At.yes rfl rfl ?_
    refine At.val (Val.loadOld Try.isAgg45 rfl (ah 2 _ (flat_at (f := tdC) (n := 5) (fun _ => rfl) ht (k := 2) rfl)) (fun h => h)) rfl rfl rfl ?_
    refine At.yes rfl rfl ?_
    refine tM rfl rfl ?_
    refine At.yes rfl rfl ?_
    refine At.idxRd rn Try.underlying45 Try.sizeOf66 rfl rfl (by omega) (by omega) rfl rfl (fun gb go gh => ?_)
    refine At.yes rfl rfl ?_
    refine At.val (Val.loadOld Try.isAgg66 rfl (gh 0 _ (by rw [Nat.mul_one, Nat.add_zero, List.getElem?_map]; show (t.Q[k]?).map _ = _; rw [hx]; rfl)) (fun h => h)) rfl rfl rfl ?_
    refine At.yes rfl rfl ?_
    refine tM rfl rfl ?_
    refine At.yes rfl rfl ?_
    refine tM rfl rfl ?_
    refine At.yes rfl rfl ?_
    refine At.callP (fun w hw => marked_p _ t.m k j w (rx.mod hw.mod) hm (by omega) hxl) Try.call31 rfl rfl ?_
    refine At.yes rfl rfl ?_
    refine At.val (Val.not rfl) rfl rfl rfl ?_
    refine At.val (Val.pickF rfl rfl) rfl rfl rfl ?_
    refine tM rfl rfl ?_
    refine At.yes rfl rfl ?_
    refine tM rfl rfl ?_
    refine At.yes rfl rfl ?_
    refine tM rfl rfl ?_
    refine At.yes rfl rfl ?_
    refine At.val (Val.cutRd (l := 0) (h := j) rav Try.underlying66 Try.sizeOf32 rfl (by exact rfl) (by exact ⟨_, _, rfl, by omega, by omega⟩) (by omega) (by omega)) rfl rfl rfl ?_
    have rcut : RdW w (.slice (cutA Aa c9 0 1) (j - 0) (c9 - 0)) (mks t.m k j) := by have h9 := rdW_take rav (h := j) (by omega); rwa [List.take_left' hml] at h9
    refine At.yes rfl rfl ?_
    refine tM rfl rfl ?_
    refine At.yes rfl rfl ?_
    refine tM rfl rfl ?_
    refine At.yes rfl rfl ?_
    refine At.callP (fun w hw => marked_p _ t.m k j w (rcut.mod hw.mod) hm (by omega) hxl) Try.call31 rfl rfl ?_
    refine At.yes rfl rfl ?_
    refine At.val (Val.not rfl) rfl rfl rfl ?_
    refine At.val (Val.pickF rfl rfl) rfl rfl rfl ?_
    refine tE ?_
    refine At.condF rfl ?_
    refine At.skipC ?_
    refine At.thenN ?_
    refine tR ?_
    refine tM rfl rfl ?_
    refine At.val (Val.lenRd rav Try.underlying66 rfl) rfl rfl rfl ?_
    rw [hel]
    have rav2 : RdW w (.slice Aa (j + 3) c9) (mks t.m k j ++ ext t.m) := by rw [← hel]; exact rav
    refine tM rfl rfl ?_
    first | refine At.val (Val.addI rfl rfl (by omega) (by omega)) rfl rfl rfl ?_ | refine At.val (Val.bin rfl rfl rfl) rfl rfl rfl ?_
    refine At.val (Val.bin rfl rfl rfl) rfl rfl rfl ?_
    rw [show (((j + 3 : Nat) : Int) != (j : Int) + 3) = false from by rw [bne_eq_false_iff_eq]; rfl]
    refine tM rfl rfl ?_
    refine At.yes rfl rfl ?_
    refine tM rfl rfl ?_
    refine At.yes rfl rfl ?_
    refine tM rfl rfl ?_
    refine At.yes rfl rfl ?_
    refine At.idxF rav2 Try.underlying66 Try.sizeOf32 rfl rfl (by omega) (by omega) rfl rfl (fun b0 o0 q0 hq0 hc0 => ?_)
    obtain rfl : q0 = BitVec.ofNat 64 (7 + t.m) := by
      have h9 : (mks t.m k j ++ ext t.m)[j + 0]? = some q0 := by first | exact hq0 | (have h8 := hq0; rwa [show ((j : Int) + 0).toNat = j + 0 from by omega] at h8)
      rw [List.getElem?_append_right (by omega), hml, show j + 0 - j = 0 from by omega] at h9
      exact (Option.some.inj h9).symm
    refine At.yes rfl rfl ?_
    refine At.val (Val.loadOld Try.isAgg32 rfl hc0 (fun h => h)) rfl rfl rfl ?_
    refine At.yes rfl rfl ?_
    refine tM rfl rfl ?_
    refine At.yes rfl rfl ?_
    first | refine At.val (Val.addI rfl rfl (by omega) (by omega)) rfl rfl rfl ?_ | refine At.val (Val.bin rfl rfl rfl) rfl rfl rfl ?_
    refine At.yes rfl rfl ?_
    refine At.val (Val.toU Try.underlying3 Try.underlying32 rfl (by omega) (by omega)) rfl rfl rfl ?_
    rw [show Value.int .u64 (7 + (t.m : Int)) = b64 (BitVec.ofNat 64 (7 + t.m)) from by rw [b64, ofN_int (by omega)] <;> rfl]
    refine At.yes rfl rfl ?_
    refine At.val (Val.bin rfl rfl rfl) rfl rfl rfl ?_
    rw [bne_self_eq_false]
    refine At.val (Val.pickF rfl rfl) rfl rfl rfl ?_
    refine tM rfl rfl ?_
    refine At.yes rfl rfl ?_
    refine tM rfl rfl ?_
    refine At.yes rfl rfl ?_
    refine tM rfl rfl ?_
    refine At.yes rfl rfl ?_
    first | refine At.val (Val.addI rfl rfl (by omega) (by omega)) rfl rfl rfl ?_ | refine At.val (Val.bin rfl rfl rfl) rfl rfl rfl ?_
    refine At.yes rfl rfl ?_
    refine At.idxF rav2 Try.underlying66 Try.sizeOf32 rfl rfl (by omega) (by omega) rfl rfl (fun b1 o1 q1 hq1 hc1 => ?_)
    obtain rfl : q1 = BitVec.ofNat 64 (8 + t.m) := by
      have h9 : (mks t.m k j ++ ext t.m)[j + 1]? = some q1 := by first | exact hq1 | (have h8 := hq1; rwa [show ((j : Int) + 1).toNat = j + 1 from by omega] at h8)
      rw [List.getElem?_append_right (by omega), hml, show j + 1 - j = 1 from by omega] at h9
      exact (Option.some.inj h9).symm
    refine At.yes rfl rfl ?_
    refine At.val (Val.loadOld Try.isAgg32 rfl hc1 (fun h => h)) rfl rfl rfl ?_
    refine At.yes rfl rfl ?_
    refine tM rfl rfl ?_
    refine At.yes rfl rfl ?_
    first | refine At.val (Val.addI rfl rfl (by omega) (by omega)) rfl rfl rfl ?_ | refine At.val (Val.bin rfl rfl rfl) rfl rfl rfl ?_
    refine At.yes rfl rfl ?_
    refine At.val (Val.toU Try.underlying3 Try.underlying32 rfl (by omega) (by omega)) rfl rfl rfl ?_
    rw [show Value.int .u64 (8 + (t.m : Int)) = b64 (BitVec.ofNat 64 (8 + t.m)) from by rw [b64, ofN_int (by omega)] <;> rfl]
    refine At.yes rfl rfl ?_
    refine At.val (Val.bin rfl rfl rfl) rfl rfl rfl ?_
    rw [bne_self_eq_false]
    refine At.val (Val.pickF rfl rfl) rfl rfl rfl ?_
    refine tM rfl rfl ?_
    refine At.yes rfl rfl ?_
    refine tM rfl rfl ?_
    refine At.yes rfl rfl ?_
    refine tM rfl rfl ?_
    refine At.yes rfl rfl ?_
    first | refine At.val (Val.addI rfl rfl (by omega) (by omega)) rfl rfl rfl ?_ | refine At.val (Val.bin rfl rfl rfl) rfl rfl rfl ?_
    refine At.yes rfl rfl ?_
    refine At.idxF rav2 Try.underlying66 Try.sizeOf32 rfl rfl (by omega) (by omega) rfl rfl (fun b2 o2 q2 hq2 hc2 => ?_)
    obtain rfl : q2 = BitVec.ofNat 64 (9 + t.m) := by
      have h9 : (mks t.m k j ++ ext t.m)[j + 2]? = some q2 := by first | exact hq2 | (have h8 := hq2; rwa [show ((j : Int) + 2).toNat = j + 2 from by omega] at h8)
      rw [List.getElem?_append_right (by omega), hml, show j + 2 - j = 2 from by omega] at h9
      exact (Option.some.inj h9).symm
    refine At.yes rfl rfl ?_
    refine At.val (Val.loadOld Try.isAgg32 rfl hc2 (fun h => h)) rfl rfl rfl ?_
    refine At.yes rfl rfl ?_
    refine tM rfl rfl ?_
    refine At.yes rfl rfl ?_
    first | refine At.val (Val.addI rfl rfl (by omega) (by omega)) rfl rfl rfl ?_ | refine At.val (Val.bin rfl rfl rfl) rfl rfl rfl ?_
    refine At.yes rfl rfl ?_
    refine At.val (Val.toU Try.underlying3 Try.underlying32 rfl (by omega) (by omega)) rfl rfl rfl ?_
    rw [show Value.int .u64 (9 + (t.m : Int)) = b64 (BitVec.ofNat 64 (9 + t.m)) from by rw [b64, ofN_int (by omega)] <;> rfl]
    refine At.yes rfl rfl ?_
    refine At.val (Val.bin rfl rfl rfl) rfl rfl rfl ?_
    rw [bne_self_eq_false]
    refine At.val (Val.pickF rfl rfl) rfl rfl rfl ?_
    refine tE ?_
    refine At.condF rfl ?_
    refine At.skipC ?_
    refine At.blkN ?_
    refine At.thenN ?_
    refine At.drop 0 ?_
    simp only [ec0, ecS]
    refine At.region ?_
    refine tM rfl rfl ?_
    first | refine At.val (Val.addI rfl rfl (by omega) (by omega)) rfl rfl rfl ?_ | refine At.val (Val.bin rfl rfl rfl) rfl rfl rfl ?_
    refine tA rfl rfl ?_
    refine tE ?_
    exact At.again (k + 1) (show k + 1 ≤ _ by omega) (by omega) (Sub.cons rfl (Sub.cons rfl (Sub.cons rfl (Sub.cons rfl (Sub.cons (congrArg (fun z => some (Value.int IntKind.i64 z)) (by omega)) Sub.nil))))) (List.Perm.refl _)
   ·skip
    try simp only [hasB, isSizeB, Bool.not_eq_true', Bool.not_eq_false', bne_iff_ne, ne_eq, bne_eq_false_iff_eq, beq_iff_eq, beq_eq_false_iff_ne, decide_eq_true_eq, decide_eq_false_iff_not, gt_iff_lt, ge_iff_le] at h5
    refine At.exitC ?_
    refine At.thenX ?_
    refine At.thenX ?_
    refine At.blkX ?_
    refine At.blkN ?_
    refine At.thenN ?_
    refine At.region ?_
    refine tM rfl rfl ?_
    first | refine At.val (Val.addI rfl rfl (by omega) (by omega)) rfl rfl rfl ?_ | refine At.val (Val.bin rfl rfl rfl) rfl rfl rfl ?_
    refine tA rfl rfl ?_
    refine tE ?_
    exact At.again (i + 1) (show i + 1 ≤ _ by omega) (by omega) (Sub.cons rfl (Sub.cons (congrArg (fun z => some (Value.int IntKind.i64 z)) (by omega)) Sub.nil)) (List.Perm.refl _)
 ·skip
  try simp only [hasB, isSizeB, Bool.not_eq_true', Bool.not_eq_false', bne_iff_ne, ne_eq, bne_eq_false_iff_eq, beq_iff_eq, beq_eq_false_iff_ne, decide_eq_true_eq, decide_eq_false_iff_not, gt_iff_lt, ge_iff_le] at h1
  refine At.exitC ?_
  refine At.thenX ?_
  refine At.thenX ?_
  refine At.blkX ?_
  refine At.thenN ?_
  refine tR ?_
  refine tA rfl rfl ?_
  refine tE ?_
  refine At.retC ?_
  refine At.ret1 (.inl rfl) rfl rfl rfl (fun w hw => ?_)
  exact ⟨rfl, hw.mod⟩

end Go.Proofs.Ytgighokkflchmaa
