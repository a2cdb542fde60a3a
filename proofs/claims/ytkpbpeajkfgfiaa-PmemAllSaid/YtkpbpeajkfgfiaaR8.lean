/- The document's device, loaded. -/
import Derived.Test.YtkpbpeajkfgfiaaR4
set_option linter.unusedVariables false
set_option linter.unusedSimpArgs false
namespace Go.Proofs.Ytkpbpeajkfgfiaa
open Go Go.Wk

theorem num_shl {l : List UInt8} {a b : Nat} {c : UInt8} (h : l[a + b]? = some c) (hb : b < 8) :
    IntKind.u64.wrap (((num l a b : Nat) : Int) + IntKind.u64.wrap ((c.toNat : Int) * 2 ^ min (8 * (b : Int)).toNat IntKind.u64.bits)) = ((num l a (b + 1) : Nat) : Int) := by
  have e8 : (8 * (b : Int)).toNat = 8 * b := by omega
  have hp : 256 ^ b = 2 ^ (8 * b) := by rw [Nat.pow_mul]
  have hle : 256 ^ (b + 1) ≤ 18446744073709551616 := by
    rw [show (18446744073709551616 : Nat) = 256 ^ 8 from rfl]; exact Nat.pow_le_pow_right (by decide) (by omega)
  have h2 : num l a (b + 1) < 256 ^ (b + 1) := num_lt a (b + 1)
  have h3 := num_succ h
  have e : IntKind.u64.wrap ((c.toNat : Int) * 2 ^ min (8 * (b : Int)).toNat IntKind.u64.bits) = ((256 ^ b * c.toNat : Nat) : Int) := by
    rw [e8, show min (8 * b) IntKind.u64.bits = 8 * b from Nat.min_eq_left (by show 8 * b ≤ 64; omega)]
    rw [show (c.toNat : Int) * 2 ^ (8 * b) = ((256 ^ b * c.toNat : Nat) : Int) from by rw [hp]; push_cast; rw [Int.mul_comm]]
    exact wrap_u64 (by omega) (by omega)
  rw [e, h3, show ((num l a b : Nat) : Int) + ((256 ^ b * c.toNat : Nat) : Int) = ((num l a b + 256 ^ b * c.toNat : Nat) : Int) from by omega]
  exact wrap_u64 (by omega) (by omega)
/-- The words of a line when i bytes have been laid. -/
def wdP (l : List UInt8) (i K : Nat) : BitVec 64 := BitVec.ofNat 64 (num l (8 * K) (min 8 (i - 8 * K)))
theorem num_lt8 (l : List UInt8) (a : Nat) {n : Nat} (h : n ≤ 8) : num l a n < 18446744073709551616 := Nat.lt_of_lt_of_le (num_lt a n) (by rw [show (18446744073709551616 : Nat) = 256 ^ 8 from rfl]; exact Nat.pow_le_pow_right (by decide) h)
theorem wdP_val (l : List UInt8) (i K : Nat) : Value.int .u64 ((num l (8 * K) (min 8 (i - 8 * K)) : Nat) : Int) = b64 (wdP l i K) := by
  unfold b64 wdP; rw [BitVec.toNat_ofNat, Nat.mod_eq_of_lt (num_lt8 l _ (by omega))]
def LnOk (l : List UInt8) (M i : Nat) (Q : List Lq) : Prop := Q.length = M ∧ ∀ (k : Nat) (q : Lq), Q[k]? = some q → q.1.puts = [] ∧ q.1.fl = [] ∧ q.1.first.length = 8 ∧ ∀ j, j < 8 → q.1.first[j]? = some (wdP l i (8 * k + j))
theorem LnOk.first8 {l : List UInt8} {M i : Nat} {Q : List Lq} (h : LnOk l M i Q) : First8 Q := fun x hx => by
  obtain ⟨k, hk⟩ := List.getElem?_of_mem hx
  exact (h.2 k x hk).2.2.1
theorem lnOk_step {l : List UInt8} {M k j b : Nat} {Q : List Lq} {q : Lq} (h : LnOk l M (64 * k + 8 * j + b) Q) (hj : j < 8) (hb : b < 8) (hq : Q[k]? = some q) : LnOk l M (64 * k + 8 * j + b + 1) (Q.set k ({ q.1 with first := q.1.first.set j (wdP l (64 * k + 8 * j + b + 1) (8 * k + j)) }, q.2.1, q.2.2)) := by
  refine ⟨by rw [List.length_set]; exact h.1, fun k' q' hq' => ?_⟩
  by_cases e : k = k'
  · subst e
    rw [List.getElem?_set_self (List.getElem?_eq_some_iff.1 hq).1] at hq'
    obtain rfl := Option.some.inj hq'
    obtain ⟨h1, h2, h3, h4⟩ := h.2 k q hq
    refine ⟨h1, h2, by simpa using h3, fun j' hj' => ?_⟩
    by_cases ej : j = j'
    · subst ej; exact List.getElem?_set_self (by omega)
    · rw [List.getElem?_set_ne ej, h4 j' hj']
      unfold wdP
      rw [show min 8 (64 * k + 8 * j + b - 8 * (8 * k + j')) = min 8 (64 * k + 8 * j + b + 1 - 8 * (8 * k + j')) by omega]
  · rw [List.getElem?_set_ne e] at hq'
    obtain ⟨h1, h2, h3, h4⟩ := h.2 k' q' hq'
    refine ⟨h1, h2, h3, fun j' hj' => ?_⟩
    rw [h4 j' hj']
    unfold wdP
    rw [show min 8 (64 * k + 8 * j + b - 8 * (8 * k' + j')) = min 8 (64 * k + 8 * j + b + 1 - 8 * (8 * k' + j')) by omega]
theorem lnOk_start {l : List UInt8} {M : Nat} {Q : List Lq} (h : Q.map Prod.fst = (zeroR M).ls) : LnOk l M 0 Q := by
  have hl : Q.length = M := by have := congrArg List.length h; rw [List.length_map] at this; simpa [zeroR] using this
  refine ⟨hl, fun k q hq => ?_⟩
  have h1 := line_at h hq
  have hz : q.1 = zL := (List.mem_replicate.1 (List.mem_of_getElem? h1)).2
  rw [hz]
  refine ⟨rfl, rfl, rfl, fun j hj => ?_⟩
  unfold zL wdP
  simp only
  rw [List.getElem?_replicate, if_pos hj, show min 8 (0 - 8 * (8 * k + j)) = 0 by omega, num_zero]; rfl
theorem lnOk_end {l : List UInt8} {M : Nat} {Q : List Lq} (h : LnOk l M (64 * M) Q) : Q.map Prod.fst = (loadR l M).ls := by
  apply List.ext_getElem?
  intro k
  show _ = ((List.range M).map (lineR l))[k]?
  rw [List.getElem?_map, List.getElem?_map]
  rcases Nat.lt_or_ge k M with hk | hk
  · obtain ⟨q, hq⟩ : ∃ q, Q[k]? = some q := ⟨_, List.getElem?_eq_getElem (by rw [h.1]; exact hk)⟩
    rw [hq, List.getElem?_range hk]
    obtain ⟨h1, h2, h3, h4⟩ := h.2 k q hq
    refine congrArg some ?_
    obtain ⟨⟨f, pu, fl⟩, q2⟩ := q
    simp only at h1 h2 h3 h4
    subst h1 h2
    show Rl.mk f [] [] = lineR l k
    unfold lineR
    congr 1
    apply List.ext_getElem?
    intro j
    rw [List.getElem?_map]
    rcases Nat.lt_or_ge j 8 with hj | hj
    · rw [h4 j hj, List.getElem?_range hj]
      unfold wdP
      rw [show min 8 (64 * M - 8 * (8 * k + j)) = 8 by omega]; rfl
    · rw [List.getElem?_eq_none (by omega), List.getElem?_eq_none (by rw [List.length_range]; exact hj)]; rfl
  · rw [List.getElem?_eq_none (by rw [h.1]; exact hk), List.getElem?_eq_none (by rw [List.length_range]; exact hk)]; rfl
theorem loadR_good {l : List UInt8} {M : Nat} (h0 : 0 < M) (h1 : M ≤ 8192) : Rgood (loadR l M) := by
  refine ⟨by simpa [loadR] using h0, by simpa [loadR] using h1, Nat.zero_le _, Nat.le_refl _, ⟨by simp [loadR], by simp [loadR]⟩, fun m hm => ?_⟩
  obtain ⟨k, _, rfl⟩ := List.mem_map.1 hm
  exact ⟨by simp [lineR], Nat.le_refl _, Nat.le_refl _, by simp [lineR], by simp [lineR]⟩
theorem wdP_step {l : List UInt8} {k j b : Nat} {c : UInt8} (h : l[8 * (8 * k + j) + b]? = some c) (hb : b < 8) :
    Value.int .u64 (IntKind.u64.wrap (((wdP l (64 * k + 8 * j + b) (8 * k + j)).toNat : Int) + IntKind.u64.wrap ((c.toNat : Int) * 2 ^ min (8 * (b : Int)).toNat IntKind.u64.bits))) = b64 (wdP l (64 * k + 8 * j + b + 1) (8 * k + j)) := by
  have e1 : (wdP l (64 * k + 8 * j + b) (8 * k + j)).toNat = num l (8 * (8 * k + j)) b := by
    unfold wdP; rw [BitVec.toNat_ofNat, show min 8 (64 * k + 8 * j + b - 8 * (8 * k + j)) = b by omega, Nat.mod_eq_of_lt (num_lt8 l _ (by omega))]
  rw [e1, num_shl h hb, ← wdP_val, show min 8 (64 * k + 8 * j + b + 1 - 8 * (8 * k + j)) = b + 1 by omega]
theorem lI_keep {Q : List Lq} {k : Nat} {q : Lq} {f : List (BitVec 64)} (hq : Q[k]? = some q) : lI (Q.set k ({ q.1 with first := f }, q.2.1, q.2.2)) = lI Q := lI_first hq rfl rfl rfl

theorem rload_d (v : Value) (l : List UInt8) (M : Nat) (w : World) (hv : RdB w v l) (hn : isSizeB (l.length : Int) = true) (hM : l.length = 64 * M) :
    NewRDev Try.prog 84 [v] (loadR l M) w := by
 refine enter (feet []) [] Try.func84 rfl Try.ntmps84 rfl ⟨by simp, by simp, by simp, Mod.refl _ _⟩ ?_
 have hnn := hn
 unfold isSizeB at hnn
 rw [decide_eq_true_eq] at hnn
 simp only [envOf]
 refine tR ?_
 refine tA rfl rfl ?_
 refine tA rfl rfl ?_
 refine tE ?_
 refine tR ?_
 refine tM rfl rfl ?_
 refine At.val (Val.lenRd hv Try.underlying33 rfl) rfl rfl rfl ?_
 refine At.callNRD (fun w hw => rnew_d _ M w hn (by omega)) Try.call75 rfl rfl (fun p1 y2 => ?_)
 refine tM rfl rfl ?_
 refine At.val (Val.extract rfl rfl) rfl rfl rfl ?_
 refine At.val (Val.extract rfl rfl) rfl rfl rfl ?_
 refine tA rfl rfl ?_
 refine tA rfl rfl ?_
 refine tE ?_
 refine At.seq ?_
 refine tR ?_
 refine tM rfl rfl ?_
 refine At.val (Val.bin rfl rfl rfl) rfl rfl rfl ?_
 refine tE ?_
 refine At.condF rfl ?_
 refine At.skipC ?_
 refine At.thenN ?_
 refine At.seq ?_
 refine At.seq ?_
 refine At.openS 0 rfl ?_
 simp only [rdevL, List.cons_append, List.nil_append, ec0, ecS]
 refine At.fact 3 rfl (fun hf => ?_)
 obtain ⟨hQ1, hg1⟩ := hf
 refine At.region ?_
 refine tA rfl rfl ?_
 refine tE ?_
 refine At.block ?_
 skip
 refine At.loop (σ := Nat × List Lq) (fun s => s.1 ≤ l.length ∧ LnOk l M s.1 s.2) (fun s => [(0, v), (4, .pointer (some ⟨p1, 0, none⟩)), (6, .int .i64 (s.1 : Int))]) (fun s => [blk p1 134 ([y2.vl, .int .i64 ((zeroR M).fenced : Int), .int .i64 ((zeroR M).now : Int), .int .i64 (zeroR M).left]), rowR y2.vl tLn 10 s.2.length (lC s.2), fam (lI s.2), factR (y2.Q.map Prod.fst = (zeroR M).ls ∧ Rgood (zeroR M))]) (fun s => l.length - s.1) (0, y2.Q) ⟨Nat.zero_le _, lnOk_start hQ1⟩ (Sub.cons rfl (Sub.cons rfl (Sub.cons rfl Sub.nil))) (List.Perm.refl _) ?_
 intro s hs
 obtain ⟨i, Q⟩ := s
 dsimp only at hs ⊢
 obtain ⟨hi, hok⟩ := hs
 have hQM := hok.1
 refine At.seq ?_
 refine tR ?_
 refine tM rfl rfl ?_
 refine tM rfl rfl ?_
 refine At.val (Val.lenRd hv Try.underlying33 rfl) rfl rfl rfl ?_
 refine At.val (Val.bin rfl rfl rfl) rfl rfl rfl ?_
 refine tE ?_
 refine At.cond rfl (fun h3 => ?_) (fun h3 => ?_)
 ·skip
  try simp only [hasB, isSizeB, Bool.not_eq_true', Bool.not_eq_false', bne_iff_ne, ne_eq, bne_eq_false_iff_eq, beq_iff_eq, beq_eq_false_iff_ne, decide_eq_true_eq, decide_eq_false_iff_not, gt_iff_lt, ge_iff_le] at h3
  obtain ⟨k, j, b, hj, hb, rfl⟩ : ∃ k j b, j < 8 ∧ b < 8 ∧ i = 64 * k + 8 * j + b := ⟨i / 64, i / 8 % 8, i % 8, by omega, by omega, by omega⟩
  have hkM : k < M := by omega
  obtain ⟨q, hq⟩ : ∃ q, Q[k]? = some q := ⟨_, List.getElem?_eq_getElem (by omega)⟩
  have h81 := hok.first8
  have hf0 := (hok.2 k q hq).2.2.2 j hj
  have hmin : min 8 (64 * k + 8 * j + b - 8 * (8 * k + j)) = b := by omega
  refine At.skipC ?_
  refine At.thenN ?_
  refine At.seq ?_
  refine At.block ?_
  refine tR ?_
  refine tM rfl rfl ?_
  refine At.val (Val.quoI rfl rfl (by omega) (by omega) (by decide)) rfl rfl rfl ?_
  rw [show ((64 * k + 8 * j + b : Nat) : Int) / 8 = ((8 * k + j : Nat) : Int) from by omega]
  refine At.val (Val.remI rfl rfl (by omega) (by decide)) rfl rfl rfl ?_
  rw [show ((8 * k + j : Nat) : Int) % 8 = (j : Int) from by omega]
  refine tA rfl rfl ?_
  refine tE ?_
  refine At.tail 25 rfl (by decide +kernel) ?_
  simp only [List.take_succ_cons, List.take_zero, List.drop_succ_cons, List.drop_zero]
  refine qM rfl rfl ?_
  refine QAt.val (Val.nilCheck rfl) rfl rfl rfl ?_
  refine QAt.val (Val.field 0 rfl fo_134_0 rfl) rfl rfl rfl ?_
  refine QAt.val (Val.load (i := 0) Try.isAgg132 rfl rfl rfl) rfl rfl rfl ?_
  refine qM rfl rfl ?_
  refine QAt.val (Val.quoI rfl rfl (by omega) (by omega) (by decide)) rfl rfl rfl ?_
  rw [show ((64 * k + 8 * j + b : Nat) : Int) / 64 = (k : Int) from by omega]
  refine qM rfl rfl ?_
  refine QAt.val (Val.indexRow (i := 1) (k * 10) (by omega) Try.underlying132 Try.sizeOf155 rfl rfl rfl (by omega) (by omega)) rfl rfl rfl ?_
  refine QAt.val (Val.field ((k * 10 + 0)) rfl fo_155_0 rfl) rfl rfl rfl ?_
  refine QAt.val (Val.indexArr (k * 10 + j) (by omega) Try.underlying152 Try.sizeOf30 rfl rfl (by omega) (by omega)) rfl rfl rfl ?_
  refine QAt.val (Val.loadRow (i := 1) Try.isAgg30 rfl rfl (lC_first h81 hq hf0)) rfl rfl rfl ?_
  refine qM rfl rfl ?_
  refine qM rfl rfl ?_
  refine QAt.idxB hv Try.underlying33 Try.sizeOf5 rfl rfl (by omega) (by omega) rfl rfl (fun b4 o5 q6 hq7 hl8 hc9 => ?_)
  refine QAt.val (Val.loadOld Try.isAgg5 rfl hc9 (fun h => by simp [feet] at h)) rfl rfl rfl ?_
  refine QAt.val (Val.toU Try.underlying5 Try.underlying30 rfl (by omega) (by omega)) rfl rfl rfl ?_
  refine qM rfl rfl ?_
  refine QAt.val (Val.remI rfl rfl (by omega) (by decide)) rfl rfl rfl ?_
  rw [show ((64 * k + 8 * j + b : Nat) : Int) % 8 = (b : Int) from by omega]
  first | refine QAt.val (Val.mulI rfl rfl (by omega) (by omega)) rfl rfl rfl ?_ | refine QAt.val (Val.bin rfl rfl rfl) rfl rfl rfl ?_
  first | refine QAt.val (Val.toU Try.underlying3 Try.underlying109 rfl (by omega) (by omega)) rfl rfl rfl ?_ | refine QAt.val (Val.conv Try.underlying3 Try.underlying109 rfl) rfl rfl rfl ?_
  refine QAt.val (Val.shl rfl rfl (by omega)) rfl rfl rfl ?_
  have hby := hq7
  rw [Int.toNat_natCast, show 64 * k + 8 * j + b = 8 * (8 * k + j) + b by omega] at hby
  refine QAt.val (Val.bin rfl rfl (congrArg some (wdP_step hby hb))) rfl rfl rfl ?_
  refine QAt.val (Val.indexRow (i := 1) (k * 10) (by omega) Try.underlying132 Try.sizeOf155 rfl rfl rfl (by omega) (by omega)) rfl rfl rfl ?_
  refine QAt.val (Val.field ((k * 10 + 0)) rfl fo_155_0 rfl) rfl rfl rfl ?_
  refine QAt.val (Val.indexArr (k * 10 + j) (by omega) Try.underlying152 Try.sizeOf30 rfl rfl (by omega) (by omega)) rfl rfl rfl ?_
  refine QAt.fin ?_
  refine At.storeRow (i := 1) Try.sizeOf30 rfl rfl rfl rfl (by rw [lC_length h81]; omega) ?_
  simp only [sc0, scS]
  rw [lC_setFirst h81 hq hj]
  refine At.nil ?_
  refine At.blkN ?_
  refine At.thenN ?_
  refine At.region ?_
  refine tM rfl rfl ?_
  first | refine At.val (Val.addI rfl rfl (by omega) (by omega)) rfl rfl rfl ?_ | refine At.val (Val.bin rfl rfl rfl) rfl rfl rfl ?_
  refine tA rfl rfl ?_
  refine tE ?_
  exact At.again (64 * k + 8 * j + b + 1, _) ⟨(show 64 * k + 8 * j + b + 1 ≤ _ by omega), lnOk_step hok hj hb hq⟩ (by dsimp only; omega) (Sub.cons rfl (Sub.cons rfl (Sub.cons (congrArg (fun z => some (Value.int IntKind.i64 z)) (by omega)) Sub.nil))) (by dsimp only; rw [lI_keep hq, List.length_set])
 ·skip
  try simp only [hasB, isSizeB, Bool.not_eq_true', Bool.not_eq_false', bne_iff_ne, ne_eq, bne_eq_false_iff_eq, beq_iff_eq, beq_eq_false_iff_ne, decide_eq_true_eq, decide_eq_false_iff_not, gt_iff_lt, ge_iff_le] at h3
  obtain rfl : i = 64 * M := by omega
  refine At.exitC ?_
  refine At.thenX ?_
  refine At.thenX ?_
  refine At.blkX ?_
  refine At.thenN ?_
  refine tR ?_
  refine tM rfl rfl ?_
  refine tA rfl rfl ?_
  refine tA rfl rfl ?_
  refine tE ?_
  refine At.retC ?_
  refine At.ret2 (.inl rfl) rfl rfl rfl rfl (fun w hw => ?_)
  exact ⟨p1, ⟨y2.vl, Q⟩, rfl, toRDev1 (lnOk_end hok) (loadR_good (by omega) (by omega)) hw rfl rfl rfl⟩

end Go.Proofs.Ytkpbpeajkfgfiaa
