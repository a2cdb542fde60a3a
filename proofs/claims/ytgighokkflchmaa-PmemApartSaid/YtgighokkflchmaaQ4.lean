/- The laws' small functions on devices, more. -/
import Derived.Test.YtgighokkflchmaaQ2
import Derived.Test.YtgighokkflchmaaDr
set_option linter.unusedVariables false
set_option linter.unusedSimpArgs false
namespace Go.Proofs.Ytgighokkflchmaa
open Go Go.Wk
theorem sameBytes_p (v u : Value) (l m : List UInt8) (w : World) (hv : RdB w v l) (hu : RdB w u m) (hl : l.length ≤ 140737488355328) (hm : m.length ≤ 140737488355328) :
    PureC Try.prog 32 [v, u] (.bool (decide (l = m))) w := by
 refine enter0 Try.func32 rfl Try.ntmps32 rfl ?_
 simp only [envOf]
 refine tR ?_
 refine tA rfl rfl ?_
 refine tE ?_
 refine At.seq ?_
 refine tR ?_
 refine tM rfl rfl ?_
 refine At.val (Val.lenRd hv Try.underlying36 rfl) rfl rfl rfl ?_
 refine tM rfl rfl ?_
 refine At.val (Val.lenRd hu Try.underlying36 rfl) rfl rfl rfl ?_
 refine At.val (Val.bin rfl rfl rfl) rfl rfl rfl ?_
 refine tE ?_
 refine At.cond rfl (fun h1 => ?_) (fun h1 => ?_)
 ·skip
  try simp only [hasB, isSizeB, Bool.not_eq_true', Bool.not_eq_false', bne_iff_ne, ne_eq, bne_eq_false_iff_eq, beq_iff_eq, beq_eq_false_iff_ne, decide_eq_true_eq, decide_eq_false_iff_not, gt_iff_lt, ge_iff_le] at h1
  refine tR ?_
  refine tA rfl rfl ?_
  refine tE ?_
  refine At.retC ?_
  refine At.thenR ?_
  refine At.ret1 (.inl rfl) rfl rfl rfl (fun w hw => ?_)
  exact ⟨congrArg (fun b => Ending.returned (.bool b)) (decide_eq_false (fun e => ‹¬ (l.length : Int) = m.length› (by rw [e]))).symm, hw.mod⟩
 ·skip
  try simp only [hasB, isSizeB, Bool.not_eq_true', Bool.not_eq_false', bne_iff_ne, ne_eq, bne_eq_false_iff_eq, beq_iff_eq, beq_eq_false_iff_ne, decide_eq_true_eq, decide_eq_false_iff_not, gt_iff_lt, ge_iff_le] at h1
  have hn : l.length = m.length := by omega
  refine At.skipC ?_
  refine At.thenN ?_
  refine At.seq ?_
  refine tR ?_
  refine tA rfl rfl ?_
  refine tE ?_
  refine At.block ?_
  skip
  refine At.loop (σ := Nat) (fun k => k ≤ l.length ∧ l.take k = m.take k) (fun k => [(0, v), (1, u), (5, .int .i64 (k : Int))]) (fun k => []) (fun k => l.length - k) 0 ⟨Nat.zero_le _, rfl⟩ (Sub.cons rfl (Sub.cons rfl (Sub.cons rfl Sub.nil))) (List.Perm.refl _) ?_
  intro k hs
  refine At.seq ?_
  refine tR ?_
  refine tM rfl rfl ?_
  refine tM rfl rfl ?_
  refine At.val (Val.lenRd hv Try.underlying36 rfl) rfl rfl rfl ?_
  refine At.val (Val.bin rfl rfl rfl) rfl rfl rfl ?_
  refine tE ?_
  refine At.cond rfl (fun h2 => ?_) (fun h2 => ?_)
  ·skip
   try simp only [hasB, isSizeB, Bool.not_eq_true', Bool.not_eq_false', bne_iff_ne, ne_eq, bne_eq_false_iff_eq, beq_iff_eq, beq_eq_false_iff_ne, decide_eq_true_eq, decide_eq_false_iff_not, gt_iff_lt, ge_iff_le] at h2
   refine At.skipC ?_
   refine At.thenN ?_
   refine At.seq ?_
   refine At.block ?_
   refine At.seq ?_
   refine At.quiet rfl (by decide +kernel) ?_
   refine qM rfl rfl ?_
   refine qM rfl rfl ?_
   refine QAt.idxB hv Try.underlying36 Try.sizeOf5 rfl rfl (by omega) (by omega) rfl rfl (fun b3 o4 q5 hq6 hl7 hc8 => ?_)
   refine QAt.val (Val.loadOld Try.isAgg5 rfl hc8 (fun h => h)) rfl rfl rfl ?_
   refine qM rfl rfl ?_
   refine qM rfl rfl ?_
   refine QAt.idxB hu Try.underlying36 Try.sizeOf5 rfl rfl (by omega) (by omega) rfl rfl (fun b9 o10 q11 hq12 hl13 hc14 => ?_)
   refine QAt.val (Val.loadOld Try.isAgg5 rfl hc14 (fun h => h)) rfl rfl rfl ?_
   refine QAt.val (Val.bin rfl rfl rfl) rfl rfl rfl ?_
   refine QAt.fin ?_
   refine At.thenN ?_
   refine At.cond rfl (fun h15 => ?_) (fun h15 => ?_)
   ·skip
    try simp only [hasB, isSizeB, Bool.not_eq_true', Bool.not_eq_false', bne_iff_ne, ne_eq, bne_eq_false_iff_eq, beq_iff_eq, beq_eq_false_iff_ne, decide_eq_true_eq, decide_eq_false_iff_not, gt_iff_lt, ge_iff_le] at h15
    refine tR ?_
    refine tA rfl rfl ?_
    refine tE ?_
    refine At.retC ?_
    refine At.blkR ?_
    refine At.thenR ?_
    refine At.thenR ?_
    refine At.blkR ?_
    refine At.thenR ?_
    refine At.ret1 (.inl rfl) rfl rfl rfl (fun w hw => ?_)
    exact ⟨congrArg (fun b => Ending.returned (.bool b)) (decide_eq_false (fun e => by subst e; simp_all)).symm, hw.mod⟩
   ·skip
    try simp only [hasB, isSizeB, Bool.not_eq_true', Bool.not_eq_false', bne_iff_ne, ne_eq, bne_eq_false_iff_eq, beq_iff_eq, beq_eq_false_iff_ne, decide_eq_true_eq, decide_eq_false_iff_not, gt_iff_lt, ge_iff_le] at h15
    refine At.skipC ?_
    refine At.blkN ?_
    refine At.thenN ?_
    refine At.region ?_
    refine tM rfl rfl ?_
    first | refine At.val (Val.addI rfl rfl (by omega) (by omega)) rfl rfl rfl ?_ | refine At.val (Val.bin rfl rfl rfl) rfl rfl rfl ?_
    refine tA rfl rfl ?_
    refine tE ?_
    exact At.again (k + 1) ⟨by omega, by rw [List.take_add_one, List.take_add_one, hs.2, show l[k]? = m[k]? from by simp only [Int.toNat_natCast] at *; simp_all; exact UInt8.toNat_inj.1 (by omega)]⟩ (by omega) (Sub.cons rfl (Sub.cons rfl (Sub.cons (congrArg (fun z => some (Value.int IntKind.i64 z)) (by omega)) Sub.nil))) (List.Perm.refl _)
  ·skip
   try simp only [hasB, isSizeB, Bool.not_eq_true', Bool.not_eq_false', bne_iff_ne, ne_eq, bne_eq_false_iff_eq, beq_iff_eq, beq_eq_false_iff_ne, decide_eq_true_eq, decide_eq_false_iff_not, gt_iff_lt, ge_iff_le] at h2
   refine At.exitC ?_
   refine At.thenX ?_
   refine At.thenX ?_
   refine At.blkX ?_
   refine At.thenN ?_
   refine tR ?_
   refine tA rfl rfl ?_
   refine tE ?_
   refine At.retC ?_
   refine At.ret1 (.inl rfl) rfl rfl rfl (fun w hw => ?_)
   exact ⟨congrArg (fun b => Ending.returned (.bool b)) (decide_eq_true (by have h1 := hs.2; rw [List.take_of_length_le (by omega), List.take_of_length_le (by omega)] at h1; exact h1)).symm, hw.mod⟩

theorem sameWords_p (v u : Value) (l m : List (BitVec 64)) (w : World) (hv : RdW w v l) (hu : RdW w u m) (hl : l.length ≤ 140737488355328) (hm : m.length ≤ 140737488355328) :
    PureC Try.prog 33 [v, u] (.bool (decide (l = m))) w := by
 refine enter0 Try.func33 rfl Try.ntmps33 rfl ?_
 simp only [envOf]
 refine tR ?_
 refine tA rfl rfl ?_
 refine tE ?_
 refine At.seq ?_
 refine tR ?_
 refine tM rfl rfl ?_
 refine At.val (Val.lenRd hv Try.underlying66 rfl) rfl rfl rfl ?_
 refine tM rfl rfl ?_
 refine At.val (Val.lenRd hu Try.underlying66 rfl) rfl rfl rfl ?_
 refine At.val (Val.bin rfl rfl rfl) rfl rfl rfl ?_
 refine tE ?_
 refine At.cond rfl (fun h1 => ?_) (fun h1 => ?_)
 ·skip
  try simp only [hasB, isSizeB, Bool.not_eq_true', Bool.not_eq_false', bne_iff_ne, ne_eq, bne_eq_false_iff_eq, beq_iff_eq, beq_eq_false_iff_ne, decide_eq_true_eq, decide_eq_false_iff_not, gt_iff_lt, ge_iff_le] at h1
  refine tR ?_
  refine tA rfl rfl ?_
  refine tE ?_
  refine At.retC ?_
  refine At.thenR ?_
  refine At.ret1 (.inl rfl) rfl rfl rfl (fun w hw => ?_)
  exact ⟨congrArg (fun b => Ending.returned (.bool b)) (decide_eq_false (fun e => ‹¬ (l.length : Int) = m.length› (by rw [e]))).symm, hw.mod⟩
 ·skip
  try simp only [hasB, isSizeB, Bool.not_eq_true', Bool.not_eq_false', bne_iff_ne, ne_eq, bne_eq_false_iff_eq, beq_iff_eq, beq_eq_false_iff_ne, decide_eq_true_eq, decide_eq_false_iff_not, gt_iff_lt, ge_iff_le] at h1
  have hn : l.length = m.length := by omega
  refine At.skipC ?_
  refine At.thenN ?_
  refine At.seq ?_
  refine tR ?_
  refine tA rfl rfl ?_
  refine tE ?_
  refine At.block ?_
  skip
  refine At.loop (σ := Nat) (fun k => k ≤ l.length ∧ l.take k = m.take k) (fun k => [(0, v), (1, u), (5, .int .i64 (k : Int))]) (fun k => []) (fun k => l.length - k) 0 ⟨Nat.zero_le _, rfl⟩ (Sub.cons rfl (Sub.cons rfl (Sub.cons rfl Sub.nil))) (List.Perm.refl _) ?_
  intro k hs
  refine At.seq ?_
  refine tR ?_
  refine tM rfl rfl ?_
  refine tM rfl rfl ?_
  refine At.val (Val.lenRd hv Try.underlying66 rfl) rfl rfl rfl ?_
  refine At.val (Val.bin rfl rfl rfl) rfl rfl rfl ?_
  refine tE ?_
  refine At.cond rfl (fun h2 => ?_) (fun h2 => ?_)
  ·skip
   try simp only [hasB, isSizeB, Bool.not_eq_true', Bool.not_eq_false', bne_iff_ne, ne_eq, bne_eq_false_iff_eq, beq_iff_eq, beq_eq_false_iff_ne, decide_eq_true_eq, decide_eq_false_iff_not, gt_iff_lt, ge_iff_le] at h2
   refine At.skipC ?_
   refine At.thenN ?_
   refine At.seq ?_
   refine At.block ?_
   refine At.seq ?_
   refine At.quiet rfl (by decide +kernel) ?_
   refine qM rfl rfl ?_
   refine qM rfl rfl ?_
   refine QAt.idxF hv Try.underlying66 Try.sizeOf32 rfl rfl (by omega) (by omega) rfl rfl (fun b3 o4 q5 hq6 hc7 => ?_)
   refine QAt.val (Val.loadOld Try.isAgg32 rfl hc7 (fun h => h)) rfl rfl rfl ?_
   refine qM rfl rfl ?_
   refine qM rfl rfl ?_
   refine QAt.idxF hu Try.underlying66 Try.sizeOf32 rfl rfl (by omega) (by omega) rfl rfl (fun b9 o10 q11 hq12 hc13 => ?_)
   refine QAt.val (Val.loadOld Try.isAgg32 rfl hc13 (fun h => h)) rfl rfl rfl ?_
   refine QAt.val (Val.bin rfl rfl rfl) rfl rfl rfl ?_
   refine QAt.fin ?_
   refine At.thenN ?_
   refine At.cond rfl (fun h15 => ?_) (fun h15 => ?_)
   ·skip
    try simp only [hasB, isSizeB, Bool.not_eq_true', Bool.not_eq_false', bne_iff_ne, ne_eq, bne_eq_false_iff_eq, beq_iff_eq, beq_eq_false_iff_ne, decide_eq_true_eq, decide_eq_false_iff_not, gt_iff_lt, ge_iff_le] at h15
    refine tR ?_
    refine tA rfl rfl ?_
    refine tE ?_
    refine At.retC ?_
    refine At.blkR ?_
    refine At.thenR ?_
    refine At.thenR ?_
    refine At.blkR ?_
    refine At.thenR ?_
    refine At.ret1 (.inl rfl) rfl rfl rfl (fun w hw => ?_)
    exact ⟨congrArg (fun b => Ending.returned (.bool b)) (decide_eq_false (fun e => by subst e; simp_all)).symm, hw.mod⟩
   ·skip
    try simp only [hasB, isSizeB, Bool.not_eq_true', Bool.not_eq_false', bne_iff_ne, ne_eq, bne_eq_false_iff_eq, beq_iff_eq, beq_eq_false_iff_ne, decide_eq_true_eq, decide_eq_false_iff_not, gt_iff_lt, ge_iff_le] at h15
    refine At.skipC ?_
    refine At.blkN ?_
    refine At.thenN ?_
    refine At.region ?_
    refine tM rfl rfl ?_
    first | refine At.val (Val.addI rfl rfl (by omega) (by omega)) rfl rfl rfl ?_ | refine At.val (Val.bin rfl rfl rfl) rfl rfl rfl ?_
    refine tA rfl rfl ?_
    refine tE ?_
    exact At.again (k + 1) ⟨by omega, by rw [List.take_add_one, List.take_add_one, hs.2, show l[k]? = m[k]? from by simp only [Int.toNat_natCast] at *; simp_all; exact BitVec.toNat_inj.1 (by omega)]⟩ (by omega) (Sub.cons rfl (Sub.cons rfl (Sub.cons (congrArg (fun z => some (Value.int IntKind.i64 z)) (by omega)) Sub.nil))) (List.Perm.refl _)
  ·skip
   try simp only [hasB, isSizeB, Bool.not_eq_true', Bool.not_eq_false', bne_iff_ne, ne_eq, bne_eq_false_iff_eq, beq_iff_eq, beq_eq_false_iff_ne, decide_eq_true_eq, decide_eq_false_iff_not, gt_iff_lt, ge_iff_le] at h2
   refine At.exitC ?_
   refine At.thenX ?_
   refine At.thenX ?_
   refine At.blkX ?_
   refine At.thenN ?_
   refine tR ?_
   refine tA rfl rfl ?_
   refine tE ?_
   refine At.retC ?_
   refine At.ret1 (.inl rfl) rfl rfl rfl (fun w hw => ?_)
   exact ⟨congrArg (fun b => Ending.returned (.bool b)) (decide_eq_true (by have h1 := hs.2; rw [List.take_of_length_le (by omega), List.take_of_length_le (by omega)] at h1; exact h1)).symm, hw.mod⟩

end Go.Proofs.Ytgighokkflchmaa
