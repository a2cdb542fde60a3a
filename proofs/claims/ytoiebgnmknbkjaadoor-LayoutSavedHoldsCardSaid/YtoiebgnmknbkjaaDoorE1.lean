/- The document's words in a slice. -/
import Derived.Test.YtoiebgnmknbkjaaDoorA3
import Derived.Test.YtoiebgnmknbkjaaDoorB2
import Derived.Test.YtoiebgnmknbkjaaDoorWv
import Derived.Test.YtoiebgnmknbkjaaDoorPa
import Derived.Test.YtoiebgnmknbkjaaDoorB7
set_option linter.unusedVariables false
set_option linter.unusedSimpArgs false
namespace Go.Proofs.YtoiebgnmknbkjaaDoor
open Go Go.Wk
theorem numS_p (v : Value) (l : List UInt8) (a n : Nat) (w : World) (hv : RdB w v l) (hlen : l.length ≤ 140737488355328) (hn : a + n ≤ l.length) (h8 : n ≤ 8) :
    PureC Tryd.prog 129 [v, .int .i64 (a : Int), .int .i64 (n : Int)] (.int .u64 (num l a n : Nat)) w := by
  refine enter0 Tryd.func129 rfl Tryd.ntmps129 rfl ?_
  simp only [envOf]
  refine At.seq ?_
  refine At.region ?_
  refine At.val (Val.assign rfl) rfl rfl rfl ?_
  refine At.nil ?_
  refine At.thenN ?_
  refine At.seq ?_
  refine At.region ?_
  refine At.val (Val.assign rfl) rfl rfl rfl ?_
  refine At.nil ?_
  refine At.thenN ?_
  refine At.seq ?_
  refine At.seq ?_
  refine At.region ?_
  refine At.val (Val.move rfl) rfl rfl rfl ?_
  first | refine At.val (Val.subI rfl rfl (by omega) (by omega)) rfl rfl rfl ?_ | refine At.val (Val.bin rfl rfl rfl) rfl rfl rfl ?_
  refine At.val (Val.assign rfl) rfl rfl rfl ?_
  refine At.nil ?_
  refine At.thenN ?_
  refine At.block ?_
  skip
  refine At.loop (σ := Nat) (fun j' => j' ≤ n) (fun j' => [(0, v), (1, .int .i64 (a : Int)), (7, .int .u64 (num l (a + j') (n - j') : Nat)), (8, .int .i64 ((j' : Int) - 1))]) (fun j' => []) (fun j' => j') n (Nat.le_refl _) (Sub.cons rfl (Sub.cons rfl (Sub.cons (congrArg (fun z => some (Value.int IntKind.u64 z)) (by rw [Nat.sub_self, num_zero]; rfl)) (Sub.cons rfl Sub.nil)))) (List.Perm.refl _) ?_
  intro j' hs
  refine At.seq ?_
  refine At.seq ?_
  refine At.region ?_
  refine At.val (Val.move rfl) rfl rfl rfl ?_
  refine At.val (Val.bin rfl rfl rfl) rfl rfl rfl ?_
  refine At.nil ?_
  refine At.thenN ?_
  refine At.cond rfl (fun h1 => ?_) (fun h1 => ?_)
  · skip
    try simp only [vN_T, vN_F, nmE_T, nmE_F, wI_T, wI_F, data_T, data_F, ino_T, ino_F, notT, notF, bneT, bneF, beqT, beqF, decT, decF] at h1
    obtain ⟨j, rfl⟩ : ∃ j, j' = j + 1 := ⟨j' - 1, by omega⟩
    obtain ⟨u, hu⟩ : ∃ u, l[a + j]? = some u := ⟨_, List.getElem?_eq_getElem (by omega)⟩
    have hnum : num l (a + (j + 1)) (n - (j + 1)) * 256 + u.toNat = num l (a + j) (n - j) := by rw [show n - j = (n - (j + 1)) + 1 by omega, num_cons hu]; rfl
    have hlt : num l (a + j) (n - j) < 18446744073709551616 := Nat.lt_of_lt_of_le (num_lt (l := l) (a + j) (n - j)) (by rw [show (18446744073709551616 : Nat) = 256 ^ 8 from rfl]; exact Nat.pow_le_pow_right (by decide) (by omega))
    refine At.skipC ?_
    refine At.thenN ?_
    refine At.seq ?_
    refine At.block ?_
    refine At.region ?_
    refine At.val (Val.move rfl) rfl rfl rfl ?_
    refine At.val (Val.bin rfl rfl rfl) rfl rfl rfl ?_
    rw [wrap_u64 (n := ((num l (a + (j + 1)) (n - (j + 1)) : Nat) : Int) * 256) (by omega) (by omega)]
    refine At.val (Val.move rfl) rfl rfl rfl ?_
    refine At.val (Val.move rfl) rfl rfl rfl ?_
    refine At.val (Val.move rfl) rfl rfl rfl ?_
    first | refine At.val (Val.addI rfl rfl (by omega) (by omega)) rfl rfl rfl ?_ | refine At.val (Val.bin rfl rfl rfl) rfl rfl rfl ?_
    refine At.idxB hv Tryd.underlying54 Tryd.sizeOf5 rfl rfl (by omega) (by omega) rfl rfl (fun b2 o3 q4 hq5 hl6 hc7 => ?_)
    refine At.val (Val.loadOld Tryd.isAgg5 rfl hc7 (fun h => h)) rfl rfl rfl ?_
    refine At.val (Val.conv Tryd.underlying5 Tryd.underlying40 rfl) rfl rfl rfl ?_
    rw [wrap_u64 (n := (q4.toNat : Int)) (by omega) (by have := q4.toNat_lt; omega), show q4 = u from by have h1 := hq5; rw [show ((a : Int) + (((j + 1 : Nat) : Int) - 1)).toNat = a + j by omega, hu] at h1; exact (Option.some.inj h1).symm]
    refine At.val (Val.bin rfl rfl rfl) rfl rfl rfl ?_
    rw [show IntKind.u64.wrap (((num l (a + (j + 1)) (n - (j + 1)) : Nat) : Int) * 256 + (u.toNat : Int)) = ((num l (a + j) (n - j) : Nat) : Int) from by rw [wrap_u64 (by omega) (by omega)]; omega]
    refine At.val (Val.assign rfl) rfl rfl rfl ?_
    refine At.nil ?_
    refine At.blkN ?_
    refine At.thenN ?_
    refine At.region ?_
    refine At.val (Val.move rfl) rfl rfl rfl ?_
    first | refine At.val (Val.subI rfl rfl (by omega) (by omega)) rfl rfl rfl ?_ | refine At.val (Val.bin rfl rfl rfl) rfl rfl rfl ?_
    refine At.val (Val.assign rfl) rfl rfl rfl ?_
    refine At.nil ?_
    refine At.thenN ?_
    exact At.again j (by omega) (by omega) (Sub.cons rfl (Sub.cons rfl (Sub.cons rfl (Sub.cons (congrArg (fun z => some (Value.int IntKind.i64 z)) (by omega)) Sub.nil)))) (List.Perm.refl _)
  · skip
    try simp only [vN_T, vN_F, nmE_T, nmE_F, wI_T, wI_F, data_T, data_F, ino_T, ino_F, notT, notF, bneT, bneF, beqT, beqF, decT, decF] at h1
    have hj0 : j' = 0 := by omega
    subst hj0
    refine At.exitC ?_
    refine At.thenX ?_
    refine At.thenX ?_
    refine At.blkX ?_
    refine At.thenN ?_
    refine At.seq ?_
    refine At.region ?_
    refine At.val (Val.move rfl) rfl rfl rfl ?_
    refine At.val (Val.assign rfl) rfl rfl rfl ?_
    refine At.nil ?_
    refine At.thenN ?_
    refine At.retC ?_
    refine At.ret1 (.inl rfl) rfl rfl rfl (fun w hw => ?_)
    exact ⟨rfl, hw.mod⟩

theorem fits_p (v : Value) (l : List UInt8) (a n : Int) (w : World) (hv : RdB w v l) (hlen : l.length ≤ 140737488355328) (hn : 0 ≤ n ∧ n ≤ 140737488355328) :
    PureC Tryd.prog 128 [v, .int .i64 a, .int .i64 n] (.bool (decide (0 ≤ a ∧ n ≤ l.length ∧ a ≤ l.length - n))) w := by
  refine enter0 Tryd.func128 rfl Tryd.ntmps128 rfl ?_
  simp only [envOf]
  refine At.seq ?_
  refine At.region ?_
  refine At.val (Val.assign rfl) rfl rfl rfl ?_
  refine At.nil ?_
  refine At.thenN ?_
  refine At.seq ?_
  refine At.region ?_
  refine At.val (Val.move rfl) rfl rfl rfl ?_
  refine At.val (Val.bin rfl rfl rfl) rfl rfl rfl ?_
  refine At.val (Val.move rfl) rfl rfl rfl ?_
  refine At.split (t := 9) rfl (fun h1 => ?_) (fun h1 => ?_)
  · skip
    try simp only [vN_T, vN_F, nmE_T, nmE_F, wI_T, wI_F, data_T, data_F, ino_T, ino_F, notT, notF, bneT, bneF, beqT, beqF, decT, decF] at h1
    refine At.yes rfl rfl ?_
    refine At.val (Val.move rfl) rfl rfl rfl ?_
    refine At.yes rfl rfl ?_
    refine At.val (Val.lenRd hv Tryd.underlying54 rfl) rfl rfl rfl ?_
    refine At.yes rfl rfl ?_
    refine At.val (Val.move rfl) rfl rfl rfl ?_
    refine At.yes rfl rfl ?_
    refine At.val (Val.bin rfl rfl rfl) rfl rfl rfl ?_
    refine At.val (Val.pickT rfl rfl) rfl rfl rfl ?_
    refine At.val (Val.move rfl) rfl rfl rfl ?_
    refine At.split (t := 15) rfl (fun h2 => ?_) (fun h2 => ?_)
    · skip
      try simp only [vN_T, vN_F, nmE_T, nmE_F, wI_T, wI_F, data_T, data_F, ino_T, ino_F, notT, notF, bneT, bneF, beqT, beqF, decT, decF] at h2
      refine At.yes rfl rfl ?_
      refine At.val (Val.move rfl) rfl rfl rfl ?_
      refine At.yes rfl rfl ?_
      refine At.val (Val.move rfl) rfl rfl rfl ?_
      refine At.yes rfl rfl ?_
      refine At.val (Val.lenRd hv Tryd.underlying54 rfl) rfl rfl rfl ?_
      refine At.yes rfl rfl ?_
      refine At.val (Val.move rfl) rfl rfl rfl ?_
      refine At.yes rfl rfl ?_
      first | refine At.val (Val.subI rfl rfl (by omega) (by omega)) rfl rfl rfl ?_ | refine At.val (Val.bin rfl rfl rfl) rfl rfl rfl ?_
      refine At.yes rfl rfl ?_
      refine At.val (Val.bin rfl rfl rfl) rfl rfl rfl ?_
      refine At.val (Val.pickT rfl rfl) rfl rfl rfl ?_
      refine At.val (Val.assign rfl) rfl rfl rfl ?_
      refine At.nil ?_
      refine At.thenN ?_
      refine At.retC ?_
      refine At.ret1 (.inl rfl) rfl rfl rfl (fun w hw => ?_)
      exact ⟨retB (by first | exact (decide_eq_true (by omega)).symm | exact (decide_eq_false (by omega)).symm | (apply Bool.eq_iff_iff.2; simp only [decide_eq_true_eq]; omega)), hw.mod⟩
    · skip
      try simp only [vN_T, vN_F, nmE_T, nmE_F, wI_T, wI_F, data_T, data_F, ino_T, ino_F, notT, notF, bneT, bneF, beqT, beqF, decT, decF] at h2
      refine At.no rfl rfl rfl rfl ?_
      refine At.no rfl rfl rfl rfl ?_
      refine At.no rfl rfl rfl rfl ?_
      refine At.no rfl rfl rfl rfl ?_
      refine At.no rfl rfl rfl rfl ?_
      refine At.no rfl rfl rfl rfl ?_
      refine At.val (Val.pickF rfl rfl) rfl rfl rfl ?_
      refine At.val (Val.assign rfl) rfl rfl rfl ?_
      refine At.nil ?_
      refine At.thenN ?_
      refine At.retC ?_
      refine At.ret1 (.inl rfl) rfl rfl rfl (fun w hw => ?_)
      exact ⟨retB (by first | exact (decide_eq_true (by omega)).symm | exact (decide_eq_false (by omega)).symm | (apply Bool.eq_iff_iff.2; simp only [decide_eq_true_eq]; omega)), hw.mod⟩
  · skip
    try simp only [vN_T, vN_F, nmE_T, nmE_F, wI_T, wI_F, data_T, data_F, ino_T, ino_F, notT, notF, bneT, bneF, beqT, beqF, decT, decF] at h1
    refine At.no rfl rfl rfl rfl ?_
    refine At.no rfl rfl rfl rfl ?_
    refine At.no rfl rfl rfl rfl ?_
    refine At.no rfl rfl rfl rfl ?_
    refine At.val (Val.pickF rfl rfl) rfl rfl rfl ?_
    refine At.val (Val.move rfl) rfl rfl rfl ?_
    refine At.no rfl rfl rfl rfl ?_
    refine At.no rfl rfl rfl rfl ?_
    refine At.no rfl rfl rfl rfl ?_
    refine At.no rfl rfl rfl rfl ?_
    refine At.no rfl rfl rfl rfl ?_
    refine At.no rfl rfl rfl rfl ?_
    refine At.val (Val.pickF rfl rfl) rfl rfl rfl ?_
    refine At.val (Val.assign rfl) rfl rfl rfl ?_
    refine At.nil ?_
    refine At.thenN ?_
    refine At.retC ?_
    refine At.ret1 (.inl rfl) rfl rfl rfl (fun w hw => ?_)
    exact ⟨retB (by first | exact (decide_eq_true (by omega)).symm | exact (decide_eq_false (by omega)).symm | (apply Bool.eq_iff_iff.2; simp only [decide_eq_true_eq]; omega)), hw.mod⟩

theorem wordS_p (v : Value) (l : List UInt8) (a : Nat) (w : World) (hv : RdB w v l) (hlen : l.length ≤ 140737488355328) (hn : a + 8 ≤ l.length) :
    PureC Tryd.prog 119 [v, .int .i64 (a : Int)] (.tuple #[.int .u64 (num l a 8 : Nat), .int .i64 0]) w := by
  refine enter0 Tryd.func119 rfl Tryd.ntmps119 rfl ?_
  simp only [envOf]
  refine At.seq ?_
  refine At.region ?_
  refine At.val (Val.assign rfl) rfl rfl rfl ?_
  refine At.val (Val.assign rfl) rfl rfl rfl ?_
  refine At.nil ?_
  refine At.thenN ?_
  refine At.seq ?_
  refine At.seq ?_
  refine At.region ?_
  refine At.val (Val.move rfl) rfl rfl rfl ?_
  refine At.val (Val.move rfl) rfl rfl rfl ?_
  refine At.callP (fun w hw => fits_p v l a 8 w (hv.mod hw.mod) hlen (by omega)) Tryd.call128 rfl rfl ?_
  refine At.val (Val.not rfl) rfl rfl rfl ?_
  refine At.nil ?_
  refine At.thenN ?_
  refine At.cond rfl (fun h1 => ?_) (fun h1 => ?_)
  · skip
    try simp only [vN_T, vN_F, nmE_T, nmE_F, wI_T, wI_F, data_T, data_F, ino_T, ino_F, notT, notF, bneT, bneF, beqT, beqF, decT, decF] at h1
    exact absurd h1 (by simp; omega)
  · skip
    try simp only [vN_T, vN_F, nmE_T, nmE_F, wI_T, wI_F, data_T, data_F, ino_T, ino_F, notT, notF, bneT, bneF, beqT, beqF, decT, decF] at h1
    refine At.skipC ?_
    refine At.thenN ?_
    refine At.seq ?_
    refine At.region ?_
    refine At.val (Val.move rfl) rfl rfl rfl ?_
    refine At.val (Val.move rfl) rfl rfl rfl ?_
    refine At.callP (fun w hw => numS_p v l a 8 w (hv.mod hw.mod) hlen hn (by decide)) Tryd.call129 rfl rfl ?_
    refine At.val (Val.assign rfl) rfl rfl rfl ?_
    refine At.val (Val.assign rfl) rfl rfl rfl ?_
    refine At.nil ?_
    refine At.thenN ?_
    refine At.retC ?_
    refine At.ret2 (.inl rfl) rfl rfl rfl rfl (fun w hw => ?_)
    exact ⟨rfl, hw.mod⟩

end Go.Proofs.YtoiebgnmknbkjaaDoor
