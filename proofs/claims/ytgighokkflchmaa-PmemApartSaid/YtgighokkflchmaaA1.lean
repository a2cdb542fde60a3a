/- PmemApart: bytes that are lent out. -/
import Derived.Test.YtgighokkflchmaaKr
import Derived.Test.YtgighokkflchmaaDr
import Derived.Test.YtgighokkflchmaaP1
set_option linter.unusedVariables false
set_option linter.unusedSimpArgs false
namespace Go.Proofs.Ytgighokkflchmaa
open Go Go.Wk

/-- Bytes that were handed out, written full, and the same with nine more. -/
structure Ln where
  b : Value
  g : Value
  n : Nat
  m : UInt8
def lnC (x : Ln) : List Value := [x.b, x.g, bv x.m]
def lnF (x : Ln) : List RdF := [⟨x.g, 1, x.n + 9, (List.replicate (x.n + 9) x.m).map bv⟩, ⟨x.b, 1, x.n, (List.replicate x.n x.m).map bv⟩]
theorem rep_bv (n : Nat) (m : UInt8) : (List.replicate n m).map bv ++ [bv m] = (List.replicate (n + 1) m).map bv := by rw [List.replicate_succ', List.map_append]; rfl
theorem row_slice {w : World} {v : Value} {e n sz : Nat} {xs : List Value} (h : (rowR v e sz n xs).holds w) : ∃ A c, v = .slice A n c := by
  rcases h.2 with ⟨rfl, rfl⟩ | ⟨b, cap, cur, rfl, _⟩
  · exact ⟨none, 0, rfl⟩
  · exact ⟨_, _, rfl⟩
theorem At.tailIs {Γ : Ctx} {E : Env} {H : List Res} {φ : Act → World → Prop} (i : Nat) {L : List RdF} {v : Value} {e sz n : Nat} {xs : List Value} (hi : H[i]? = some (tailR L v e sz n xs)) (k : ∀ A c, v = .slice A n c → At Γ E H φ) : At Γ E H φ := fun a w ha hw => by
  obtain ⟨A, c, hv⟩ := row_slice (v := v) (hw.all _ (List.mem_of_getElem? hi)).1
  exact k A c hv a w ha hw
theorem ln_b {w : World} {F : List RdF} {x : Ln} (h : ∀ f ∈ lnF x, Rd w f.v f.sz f.n f.xs) : RdB w x.b (List.replicate x.n x.m) := by
  have := h ⟨x.b, 1, x.n, (List.replicate x.n x.m).map bv⟩ (by simp [lnF])
  unfold RdB
  rwa [List.length_replicate]
theorem ln_g {w : World} {F : List RdF} {x : Ln} (h : ∀ f ∈ lnF x, Rd w f.v f.sz f.n f.xs) : RdB w x.g (List.replicate (x.n + 9) x.m) := by
  have := h ⟨x.g, 1, x.n + 9, (List.replicate (x.n + 9) x.m).map bv⟩ (by simp [lnF])
  unfold RdB
  rwa [List.length_replicate]
theorem rep_at {α : Type} {n k : Nat} {m q : α} (h : (List.replicate n m)[k]? = some q) : q = m := by
  rw [List.getElem?_replicate] at h
  split at h
  · exact (Option.some.inj h).symm
  · cases h

theorem lend_g (v : Value) (l : List UInt8) (m : UInt8) (w : World) (hl : l.length ≤ 1000000) (ho : (brow 5 v l).holds w) :
    GU Try.prog 11 [v, bv m] (brow 5 v l) (fun g => .agg #[v, g, bv m]) (fun g => readsR (lnF ⟨v, g, l.length, m⟩)) (fun _ => True) w := by
 obtain ⟨A, ca, rfl⟩ := row_slice ho
 refine enter (feet [brow 5 (.slice A l.length ca) l]) [brow 5 (.slice A l.length ca) l] Try.func11 rfl Try.ntmps11 rfl (Rep.one ho) ?_
 simp only [envOf]
 refine tR ?_
 refine At.alloc Try.zeroValue42 rfl rfl (fun b1 => ?_)
 refine tE ?_
 refine At.seq ?_
 refine tR ?_
 refine tA rfl rfl ?_
 refine tE ?_
 refine At.block ?_
 skip
 refine At.loop (σ := Nat) (fun i => i ≤ l.length) (fun i => [(0, (.slice A l.length ca)), (1, bv m), (4, .pointer (some ⟨b1, 0, none⟩)), (5, .int .i64 (i : Int))]) (fun i => [blk b1 42 ([Value.slice none 0 0, Value.slice none 0 0, Value.int .u8 0]), rowR (.slice A l.length ca) 5 1 (((wrL l i m)).length) (((wrL l i m)).map bv)]) (fun i => l.length - i) 0 (Nat.zero_le _) (Sub.cons rfl (Sub.cons rfl (Sub.cons rfl (Sub.cons rfl Sub.nil)))) (by rw [wrL_0]) ?_
 intro i hs
 have hwl := wrL_len (c := m) hs
 refine At.seq ?_
 refine tR ?_
 refine tM rfl rfl ?_
 refine tM rfl rfl ?_
 refine At.val (Val.lenRow (i := 1) Try.underlying36 rfl rfl) rfl rfl rfl ?_
 refine At.val (Val.bin rfl rfl rfl) rfl rfl rfl ?_
 refine tE ?_
 refine At.cond rfl (fun h2 => ?_) (fun h2 => ?_)
 ·skip
  try simp only [hasB, isSizeB, Bool.not_eq_true', Bool.not_eq_false', bne_iff_ne, ne_eq, bne_eq_false_iff_eq, beq_iff_eq, beq_eq_false_iff_ne, decide_eq_true_eq, decide_eq_false_iff_not, gt_iff_lt, ge_iff_le] at h2
  refine At.skipC ?_
  refine At.thenN ?_
  refine At.seq ?_
  refine At.block ?_
  refine At.region ?_
  refine tM rfl rfl ?_
  refine tM rfl rfl ?_
  refine tM rfl rfl ?_
  refine At.idxRowB (i := 1) rfl Try.underlying36 Try.sizeOf5 rfl rfl (by omega) (by omega) rfl rfl (fun q3 hq4 hl5 => ?_)
  refine At.storeRowB (i := 1) Try.sizeOf5 rfl rfl rfl (by first | omega | (simp only [Int.toNat_natCast]; omega)) ?_
  simp only [List.set_cons_zero, List.set_cons_succ, Int.toNat_natCast]
  rw [wrL_set (by omega)]
  refine At.nil ?_
  refine At.blkN ?_
  refine At.thenN ?_
  refine At.region ?_
  refine tM rfl rfl ?_
  first | refine At.val (Val.addI rfl rfl (by omega) (by omega)) rfl rfl rfl ?_ | refine At.val (Val.bin rfl rfl rfl) rfl rfl rfl ?_
  refine tA rfl rfl ?_
  refine tE ?_
  exact At.again (i + 1) (show i + 1 ≤ _ by omega) (by omega) (Sub.cons rfl (Sub.cons rfl (Sub.cons rfl (Sub.cons (congrArg (fun z => some (Value.int IntKind.i64 z)) (by omega)) Sub.nil)))) (List.Perm.refl _)
 ·skip
  try simp only [hasB, isSizeB, Bool.not_eq_true', Bool.not_eq_false', bne_iff_ne, ne_eq, bne_eq_false_iff_eq, beq_iff_eq, beq_eq_false_iff_ne, decide_eq_true_eq, decide_eq_false_iff_not, gt_iff_lt, ge_iff_le] at h2
  have hil : i = l.length := by omega
  subst hil
  rw [wrL_all]
  refine At.exitC ?_
  refine At.thenX ?_
  refine At.thenX ?_
  refine At.blkX ?_
  refine At.thenN ?_
  refine tR ?_
  refine tM rfl rfl ?_
  refine tA rfl rfl ?_
  refine tE ?_
  refine At.seq ?_
  refine At.seq ?_
  have hrl : (List.replicate l.length m).length = l.length := List.length_replicate
  refine At.rowTail 1 rfl (by decide) ?_
  simp only [sc0, scS]
  simp only [List.length_replicate]
  refine At.region ?_
  refine tA rfl rfl ?_
  refine tE ?_
  refine At.block ?_
  skip
  refine At.loop (σ := Nat × Value) (fun s => s.1 ≤ 9) (fun s => [(0, (.slice A l.length ca)), (1, bv m), (4, .pointer (some ⟨b1, 0, none⟩)), (6, s.2), (7, .int .i64 (s.1 : Int))]) (fun s => [blk b1 42 ([Value.slice none 0 0, Value.slice none 0 0, Value.int .u8 0]), tailR [⟨(.slice A l.length ca), 1, l.length, (List.replicate l.length m).map bv⟩] s.2 5 1 (l.length + s.1) ((List.replicate (l.length + s.1) m).map bv)]) (fun s => 9 - s.1) (0, (.slice A l.length ca)) (Nat.zero_le _) (Sub.cons rfl (Sub.cons rfl (Sub.cons rfl (Sub.cons rfl (Sub.cons rfl Sub.nil))))) (List.Perm.refl _) ?_
  intro s hs
  obtain ⟨k, vg⟩ := s
  dsimp only at hs ⊢
  refine At.seq ?_
  refine tR ?_
  refine tM rfl rfl ?_
  refine At.val (Val.bin rfl rfl rfl) rfl rfl rfl ?_
  refine tE ?_
  refine At.cond rfl (fun h6 => ?_) (fun h6 => ?_)
  ·skip
   try simp only [hasB, isSizeB, Bool.not_eq_true', Bool.not_eq_false', bne_iff_ne, ne_eq, bne_eq_false_iff_eq, beq_iff_eq, beq_eq_false_iff_ne, decide_eq_true_eq, decide_eq_false_iff_not, gt_iff_lt, ge_iff_le] at h6
   refine At.skipC ?_
   refine At.thenN ?_
   refine At.seq ?_
   refine At.block ?_
   refine At.region ?_
   refine tM rfl rfl ?_
   refine tM rfl rfl ?_
   refine At.buildSl (fun a ha => by simp only [List.map_toArray, List.map_cons, List.map_nil, ha.eval (x := (.tmp 24)) rfl]; try rfl) (bs_36_1 _ ) rfl (fun b7 => ?_)
   refine At.appendT (i := 2) (by_ := 1) (ys := [bv m]) Try.underlying36 info_5 rfl rfl rfl rfl rfl rfl rfl rfl rfl (fun w hw j u hj => by rw [Nat.zero_add]; exact ((hw.blk (i := 0) rfl).cell j).trans hj) (by simp [Value.oneCell', bv]) (by omega) (by omega) rfl (fun v8 => ?_)
   simp only [sc0, scS]
   refine At.drop 0 ?_
   simp only [ec0, ecS]
   refine tA rfl rfl ?_
   refine At.nil ?_
   refine At.blkN ?_
   refine At.thenN ?_
   refine At.region ?_
   refine tM rfl rfl ?_
   first | refine At.val (Val.addI rfl rfl (by omega) (by omega)) rfl rfl rfl ?_ | refine At.val (Val.bin rfl rfl rfl) rfl rfl rfl ?_
   refine tA rfl rfl ?_
   refine tE ?_
   exact At.again (k + 1, v8) (show k + 1 ≤ 9 by omega) (by dsimp only; omega) (Sub.cons rfl (Sub.cons rfl (Sub.cons rfl (Sub.cons rfl (Sub.cons (congrArg (fun z => some (Value.int IntKind.i64 z)) (by omega)) Sub.nil))))) (by dsimp only; rw [rep_bv]; exact List.Perm.refl _)
  ·skip
   try simp only [hasB, isSizeB, Bool.not_eq_true', Bool.not_eq_false', bne_iff_ne, ne_eq, bne_eq_false_iff_eq, beq_iff_eq, beq_eq_false_iff_ne, decide_eq_true_eq, decide_eq_false_iff_not, gt_iff_lt, ge_iff_le] at h6
   refine At.exitC ?_
   refine At.thenX ?_
   refine At.thenX ?_
   refine At.blkX ?_
   refine At.thenN ?_
   refine At.seq ?_
   have hk9 : k = 9 := by omega
   subst hk9
   refine At.tailIs 1 rfl (fun A2 c2 hv2 => ?_)
   subst hv2
   refine At.tailEnd 1 rfl (by decide) ?_
   simp only [sc0, scS]
   refine At.region ?_
   refine tM rfl rfl ?_
   refine tM rfl rfl ?_
   refine tM rfl rfl ?_
   refine At.val (Val.build (fun a ha => by simp only [List.map_toArray, List.map_cons, List.map_nil, ha.eval (x := (.tmp 27)) rfl, ha.eval (x := (.tmp 28)) rfl, ha.eval (x := (.tmp 29)) rfl] <;> rfl) (bld_42_0_1_2 _ _ _ _ _ _ _ )) rfl rfl rfl ?_
   refine At.storeAll (i := 0) Try.sizeOf42 rfl rfl rfl (by simp [Value.oneCell']) rfl rfl ?_
   simp only [sc0, scS]
   refine tE ?_
   refine At.retC ?_
   refine At.ret1 (.inl rfl) rfl rfl (ResOf.all (i := 0) Try.isAgg42 Try.sizeOf42 rfl rfl rfl) (fun w hw => ?_)
   exact ⟨.slice A2 (l.length + 9) c2, rfl, trivial, hw.drop (List.singleton_sublist.2 (List.mem_of_getElem? (i := 1) rfl))⟩

theorem kept_p (v : Value) (X : List Ln) (w : World) (hv : Rd w v 3 X.length (X.flatMap lnC)) (hX : ∀ x ∈ X, ∀ f ∈ lnF x, Rd w f.v f.sz f.n f.xs) (hb : ∀ x ∈ X, x.n ≤ 1000000) (hl : X.length ≤ 1000) :
    PureC Try.prog 14 [v] (.bool true) w := by
 refine enter0 Try.func14 rfl Try.ntmps14 rfl ?_
 simp only [envOf]
 refine tR ?_
 refine tA rfl rfl ?_
 refine tE ?_
 refine At.seq ?_
 refine tR ?_
 refine tA rfl rfl ?_
 refine tE ?_
 refine At.block ?_
 skip
 refine At.loop (σ := Nat) (fun i => i ≤ X.length) (fun i => [(0, v), (3, .int .i64 (i : Int))]) (fun i => []) (fun i => X.length - i) 0 (Nat.zero_le _) (Sub.cons rfl (Sub.cons rfl Sub.nil)) (List.Perm.refl _) ?_
 intro i hs
 refine At.seq ?_
 refine tR ?_
 refine tM rfl rfl ?_
 refine tM rfl rfl ?_
 refine At.val (Val.lenRd hv Try.underlying28 rfl) rfl rfl rfl ?_
 refine At.val (Val.bin rfl rfl rfl) rfl rfl rfl ?_
 refine tE ?_
 refine At.cond rfl (fun h1 => ?_) (fun h1 => ?_)
 ·skip
  try simp only [hasB, isSizeB, Bool.not_eq_true', Bool.not_eq_false', bne_iff_ne, ne_eq, bne_eq_false_iff_eq, beq_iff_eq, beq_eq_false_iff_ne, decide_eq_true_eq, decide_eq_false_iff_not, gt_iff_lt, ge_iff_le] at h1
  obtain ⟨x, hx⟩ : ∃ x, X[i]? = some x := ⟨_, List.getElem?_eq_getElem (by omega)⟩
  have hxm := List.mem_of_getElem? hx
  have hB := ln_b (F := []) (hX x hxm)
  have hG := ln_g (F := []) (hX x hxm)
  have hBl : (List.replicate x.n x.m).length = x.n := List.length_replicate
  have hGl : (List.replicate (x.n + 9) x.m).length = x.n + 9 := List.length_replicate
  have hbx := hb x hxm
  refine At.skipC ?_
  refine At.thenN ?_
  refine At.seq ?_
  refine At.block ?_
  refine At.seq ?_
  refine tR ?_
  refine tA rfl rfl ?_
  refine tE ?_
  refine At.block ?_
  skip
  refine At.loop (σ := Nat) (fun k => k ≤ x.n) (fun k => [(0, v), (3, .int .i64 (i : Int)), (4, .int .i64 (k : Int))]) (fun k => []) (fun k => x.n - k) 0 (Nat.zero_le _) (Sub.cons rfl (Sub.cons rfl (Sub.cons rfl Sub.nil))) (List.Perm.refl _) ?_
  intro k hs
  refine At.seq ?_
  refine tR ?_
  refine tM rfl rfl ?_
  refine tM rfl rfl ?_
  refine tM rfl rfl ?_
  refine At.idxRd hv Try.underlying28 Try.sizeOf42 rfl rfl (by omega) (by omega) rfl rfl (fun ab ao ah => ?_)
  refine At.val (Val.field ((ao + 0)) rfl fo_42_0 rfl) rfl rfl rfl ?_
  refine At.val (Val.loadOld Try.isAgg36 rfl (ah 0 _ (flat_at (f := lnC) (n := 3) (fun _ => rfl) hx (k := 0) rfl)) (fun h => h)) rfl rfl rfl ?_
  refine At.val (Val.lenRd hB Try.underlying36 rfl) rfl rfl rfl ?_
  refine At.val (Val.bin rfl rfl rfl) rfl rfl rfl ?_
  refine tE ?_
  refine At.cond rfl (fun h2 => ?_) (fun h2 => ?_)
  ·skip
   try simp only [hasB, isSizeB, Bool.not_eq_true', Bool.not_eq_false', bne_iff_ne, ne_eq, bne_eq_false_iff_eq, beq_iff_eq, beq_eq_false_iff_ne, decide_eq_true_eq, decide_eq_false_iff_not, gt_iff_lt, ge_iff_le] at h2
   refine At.skipC ?_
   refine At.thenN ?_
   refine At.seq ?_
   refine At.block ?_
   refine At.seq ?_
   refine At.quiet rfl (by decide +kernel) ?_
   refine qM rfl rfl ?_
   refine qM rfl rfl ?_
   refine QAt.idxRd hv Try.underlying28 Try.sizeOf42 rfl rfl (by omega) (by omega) rfl rfl (fun cb co ch => ?_)
   refine QAt.val (Val.field ((co + 0)) rfl fo_42_0 rfl) rfl rfl rfl ?_
   refine QAt.val (Val.loadOld Try.isAgg36 rfl (ch 0 _ (flat_at (f := lnC) (n := 3) (fun _ => rfl) hx (k := 0) rfl)) (fun h => h)) rfl rfl rfl ?_
   refine qM rfl rfl ?_
   refine QAt.idxB hB Try.underlying36 Try.sizeOf5 rfl rfl (by omega) (by omega) rfl rfl (fun b3 o4 q5 hq6 hl7 hc8 => ?_)
   refine QAt.val (Val.loadOld Try.isAgg5 rfl hc8 (fun h => h)) rfl rfl rfl ?_
   obtain rfl := rep_at hq6
   ·skip
    refine qM rfl rfl ?_
    refine qM rfl rfl ?_
    refine QAt.idxRd hv Try.underlying28 Try.sizeOf42 rfl rfl (by omega) (by omega) rfl rfl (fun eb eo eh => ?_)
    refine QAt.val (Val.field ((eo + 2)) rfl fo_42_2 rfl) rfl rfl rfl ?_
    refine QAt.val (Val.loadOld Try.isAgg5 rfl (eh 2 _ (flat_at (f := lnC) (n := 3) (fun _ => rfl) hx (k := 2) rfl)) (fun h => h)) rfl rfl rfl ?_
    refine QAt.val (Val.bin rfl rfl rfl) rfl rfl rfl ?_
    rw [bne_self_eq_false]
    refine QAt.fin ?_
    refine At.thenN ?_
    refine At.condF rfl ?_
    refine At.skipC ?_
    refine At.blkN ?_
    refine At.thenN ?_
    refine At.region ?_
    refine tM rfl rfl ?_
    first | refine At.val (Val.addI rfl rfl (by omega) (by omega)) rfl rfl rfl ?_ | refine At.val (Val.bin rfl rfl rfl) rfl rfl rfl ?_
    refine tA rfl rfl ?_
    refine tE ?_
    exact At.again (k + 1) (show k + 1 ≤ _ by omega) (by omega) (Sub.cons rfl (Sub.cons rfl (Sub.cons (congrArg (fun z => some (Value.int IntKind.i64 z)) (by omega)) Sub.nil))) (List.Perm.refl _)
  ·skip
   try simp only [hasB, isSizeB, Bool.not_eq_true', Bool.not_eq_false', bne_iff_ne, ne_eq, bne_eq_false_iff_eq, beq_iff_eq, beq_eq_false_iff_ne, decide_eq_true_eq, decide_eq_false_iff_not, gt_iff_lt, ge_iff_le] at h2
   refine At.exitC ?_
   refine At.thenX ?_
   refine At.thenX ?_
   refine At.blkX ?_
   refine At.thenN ?_
   refine tR ?_
   refine tA rfl rfl ?_
   refine tE ?_
   refine At.block ?_
   skip
   refine At.loop (σ := Nat) (fun k => k ≤ (x.n + 9)) (fun k => [(0, v), (3, .int .i64 (i : Int)), (5, .int .i64 (k : Int))]) (fun k => []) (fun k => (x.n + 9) - k) 0 (Nat.zero_le _) (Sub.cons rfl (Sub.cons rfl (Sub.cons rfl Sub.nil))) (List.Perm.refl _) ?_
   intro k hs
   refine At.seq ?_
   refine tR ?_
   refine tM rfl rfl ?_
   refine tM rfl rfl ?_
   refine tM rfl rfl ?_
   refine At.idxRd hv Try.underlying28 Try.sizeOf42 rfl rfl (by omega) (by omega) rfl rfl (fun ab ao ah => ?_)
   refine At.val (Val.field ((ao + 1)) rfl fo_42_1 rfl) rfl rfl rfl ?_
   refine At.val (Val.loadOld Try.isAgg36 rfl (ah 1 _ (flat_at (f := lnC) (n := 3) (fun _ => rfl) hx (k := 1) rfl)) (fun h => h)) rfl rfl rfl ?_
   refine At.val (Val.lenRd hG Try.underlying36 rfl) rfl rfl rfl ?_
   refine At.val (Val.bin rfl rfl rfl) rfl rfl rfl ?_
   refine tE ?_
   refine At.cond rfl (fun h9 => ?_) (fun h9 => ?_)
   ·skip
    try simp only [hasB, isSizeB, Bool.not_eq_true', Bool.not_eq_false', bne_iff_ne, ne_eq, bne_eq_false_iff_eq, beq_iff_eq, beq_eq_false_iff_ne, decide_eq_true_eq, decide_eq_false_iff_not, gt_iff_lt, ge_iff_le] at h9
    refine At.skipC ?_
    refine At.thenN ?_
    refine At.seq ?_
    refine At.block ?_
    refine At.seq ?_
    refine At.quiet rfl (by decide +kernel) ?_
    refine qM rfl rfl ?_
    refine qM rfl rfl ?_
    refine QAt.idxRd hv Try.underlying28 Try.sizeOf42 rfl rfl (by omega) (by omega) rfl rfl (fun cb co ch => ?_)
    refine QAt.val (Val.field ((co + 1)) rfl fo_42_1 rfl) rfl rfl rfl ?_
    refine QAt.val (Val.loadOld Try.isAgg36 rfl (ch 1 _ (flat_at (f := lnC) (n := 3) (fun _ => rfl) hx (k := 1) rfl)) (fun h => h)) rfl rfl rfl ?_
    refine qM rfl rfl ?_
    refine QAt.idxB hG Try.underlying36 Try.sizeOf5 rfl rfl (by omega) (by omega) rfl rfl (fun b10 o11 q12 hq13 hl14 hc15 => ?_)
    refine QAt.val (Val.loadOld Try.isAgg5 rfl hc15 (fun h => h)) rfl rfl rfl ?_
    obtain rfl := rep_at hq13
    ·skip
     refine qM rfl rfl ?_
     refine qM rfl rfl ?_
     refine QAt.idxRd hv Try.underlying28 Try.sizeOf42 rfl rfl (by omega) (by omega) rfl rfl (fun eb eo eh => ?_)
     refine QAt.val (Val.field ((eo + 2)) rfl fo_42_2 rfl) rfl rfl rfl ?_
     refine QAt.val (Val.loadOld Try.isAgg5 rfl (eh 2 _ (flat_at (f := lnC) (n := 3) (fun _ => rfl) hx (k := 2) rfl)) (fun h => h)) rfl rfl rfl ?_
     refine QAt.val (Val.bin rfl rfl rfl) rfl rfl rfl ?_
     rw [bne_self_eq_false]
     refine QAt.fin ?_
     refine At.thenN ?_
     refine At.condF rfl ?_
     refine At.skipC ?_
     refine At.blkN ?_
     refine At.thenN ?_
     refine At.region ?_
     refine tM rfl rfl ?_
     first | refine At.val (Val.addI rfl rfl (by omega) (by omega)) rfl rfl rfl ?_ | refine At.val (Val.bin rfl rfl rfl) rfl rfl rfl ?_
     refine tA rfl rfl ?_
     refine tE ?_
     exact At.again (k + 1) (show k + 1 ≤ _ by omega) (by omega) (Sub.cons rfl (Sub.cons rfl (Sub.cons (congrArg (fun z => some (Value.int IntKind.i64 z)) (by omega)) Sub.nil))) (List.Perm.refl _)
   ·skip
    try simp only [hasB, isSizeB, Bool.not_eq_true', Bool.not_eq_false', bne_iff_ne, ne_eq, bne_eq_false_iff_eq, beq_iff_eq, beq_eq_false_iff_ne, decide_eq_true_eq, decide_eq_false_iff_not, gt_iff_lt, ge_iff_le] at h9
    refine At.exitC ?_
    refine At.thenX ?_
    refine At.thenX ?_
    refine At.blkX ?_
    refine At.blkN ?_
    refine At.thenN ?_
    refine At.region ?_
    refine tM rfl rfl ?_
    first | refine At.val (Val.addI rfl rfl (by omega) (by omega)) rfl rfl rfl ?_ | refine At.val (Val.bin rfl rfl rfl) rfl rfl rfl ?_
    refine tA rfl rfl ?_
    refine tE ?_
    exact At.again (i + 1) (show i + 1 ≤ _ by omega) (by omega) (Sub.cons rfl (Sub.cons (congrArg (fun z => some (Value.int IntKind.i64 z)) (by omega)) Sub.nil)) (List.Perm.refl _)
 ·skip
  try simp only [hasB, isSizeB, Bool.not_eq_true', Bool.not_eq_false', bne_iff_ne, ne_eq, bne_eq_false_iff_eq, beq_iff_eq, beq_eq_false_iff_ne, decide_eq_true_eq, decide_eq_false_iff_not, gt_iff_lt, ge_iff_le] at h1
  refine At.exitC ?_
  refine At.thenX ?_
  refine At.thenX ?_
  refine At.blkX ?_
  refine At.thenN ?_
  refine tR ?_
  refine tA rfl rfl ?_
  refine tE ?_
  refine At.retC ?_
  refine At.ret1 (.inl rfl) rfl rfl rfl (fun w hw => ?_)
  exact ⟨rfl, hw.mod⟩

end Go.Proofs.Ytgighokkflchmaa
