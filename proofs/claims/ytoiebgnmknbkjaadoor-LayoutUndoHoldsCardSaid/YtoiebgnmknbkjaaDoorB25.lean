/- Lists of undos packed. -/
import Derived.Test.YtoiebgnmknbkjaaDoorB24
import Derived.Test.YtoiebgnmknbkjaaDoorB9
import Derived.Test.YtoiebgnmknbkjaaDoorB4
import Derived.Test.YtoiebgnmknbkjaaDoorB3
set_option linter.unusedVariables false
set_option linter.unusedSimpArgs false
namespace Go.Proofs.YtoiebgnmknbkjaaDoor
open Go Go.Wk

def undoWs (L : List (Int × BitVec 64)) : List (BitVec 64) := L.flatMap fun c => [BitVec.ofInt 64 c.1, c.2]
theorem undoWs_snoc (L : List (Int × BitVec 64)) (c : Int × BitVec 64) : undoWs (L ++ [c]) = undoWs L ++ [BitVec.ofInt 64 c.1, c.2] := by simp [undoWs]
theorem undoWs_length (L : List (Int × BitVec 64)) : (undoWs L).length = 2 * L.length := by
  induction L with
  | nil => rfl
  | cons c L ih => unfold undoWs at *; simp only [List.flatMap_cons, List.length_append, List.length_cons, List.length_nil, ih]; omega
def recB (L : List (Int × BitVec 64)) : List UInt8 := bytesW (undoWs L)
theorem recB_length (L : List (Int × BitVec 64)) : (recB L).length = 16 * L.length := by unfold recB; rw [bytesW_length, undoWs_length]; omega
theorem recB_snoc (L : List (Int × BitVec 64)) (c : Int × BitVec 64) : recB (L ++ [c]) = recB L ++ le 8 (BitVec.ofInt 64 c.1).toNat ++ le 8 c.2.toNat := by
  unfold recB; rw [undoWs_snoc, bytesW_append, List.append_assoc]; rfl
def headB (n : Int) (s : BitVec 32) : List UInt8 := le 8 (sealW (BitVec.ofInt 64 512) (BitVec.ofInt 32 n)).toNat ++ le 8 (sealW (BitVec.ofInt 64 520) s).toNat
theorem headB_length (n : Int) (s : BitVec 32) : (headB n s).length = 16 := by unfold headB; rw [List.length_append, le_length, le_length]
theorem bytesW_two (x y : BitVec 64) : bytesW [x, y] = le 8 x.toNat ++ le 8 y.toNat := by simp [bytesW]
def undoB (L : List (Int × BitVec 64)) : List UInt8 := headB L.length (sumOn 0 (recB L)) ++ zs 48 ++ recB L
theorem undoB_length (L : List (Int × BitVec 64)) : (undoB L).length = 64 + 16 * L.length := by unfold undoB; rw [List.length_append, List.length_append, headB_length, zs_length, recB_length]
noncomputable def packB (L : List (Int × BitVec 64)) : List UInt8 := if GoodUn L then undoB L else []
noncomputable def packE (L : List (Int × BitVec 64)) : Int := if GoodUn L then 0 else 35
theorem packB_T {L : List (Int × BitVec 64)} (h : GoodUn L) : packB L = undoB L := if_pos h
theorem packB_F {L : List (Int × BitVec 64)} (h : ¬ GoodUn L) : packB L = [] := if_neg h
theorem packE_T {L : List (Int × BitVec 64)} (h : GoodUn L) : packE L = 0 := if_pos h
theorem packE_F {L : List (Int × BitVec 64)} (h : ¬ GoodUn L) : packE L = 35 := if_neg h
theorem over_head {n : Int} {s : BitVec 32} : (zs 64).take 0 ++ headB n s ++ (zs 64).drop (0 + (headB n s).length) = headB n s ++ zs 48 := by
  rw [headB_length]; rfl
theorem hasAt_hit {L : List (Int × BitVec 64)} {j k : Nat} {d : Int × BitVec 64} {a : Int} (h : L[j]? = some d) (hj : j < k) (e : d.1 = a) : hasAt (L.take k) a = true :=
  hasAt_T.2 ⟨j, d, by rw [List.getElem?_take, if_pos hj]; exact h, e⟩
theorem hasAt_step {L : List (Int × BitVec 64)} {j : Nat} {d : Int × BitVec 64} {a : Int} (h : L[j]? = some d) (e : ¬ d.1 = a) (h0 : hasAt (L.take j) a = false) : hasAt (L.take (j + 1)) a = false := by
  rw [List.take_succ_of_get h]; unfold hasAt at *; rw [List.any_append, h0]; simp; exact e
theorem pr_eq {L : List (Int × BitVec 64)} {k : Nat} {a b : Int × BitVec 64} (h1 : L[(k : Int).toNat]? = some a) (h2 : L[k]? = some b) : a = b := by
  rw [Int.toNat_natCast, h2] at h1; exact (Option.some.inj h1).symm
theorem recBytes_n (v : Value) (L : List (Int × BitVec 64)) (w : World) (hv : RdW w v (undoWs L)) (hlen : L.length ≤ 8) : NewRow Tryd.prog 103 [v] 5 1 (recB L).length ((recB L).map bv) w := bytes_n v (undoWs L) w hv (by rw [undoWs_length]; omega)
theorem headBytes_n (v : Value) (n : Int) (s : BitVec 32) (w : World) (hv : RdW w v [sealW (BitVec.ofInt 64 512) (BitVec.ofInt 32 n), sealW (BitVec.ofInt 64 520) s]) : NewRow Tryd.prog 103 [v] 5 1 (headB n s).length ((headB n s).map bv) w := by
  have := bytes_n v _ w hv (by simp); rwa [bytesW_two] at this
theorem sumRd_p (v : Value) (l : List UInt8) (w : World) (hv : RdB w v l) (ht : Tab w) (hlen : l.length ≤ 140737488355328) : PureC Tryd.prog 115 [v] (b32 (sumOn 0 l)) w := by
  obtain ⟨A, c, rfl, hb, _⟩ := hv.bytes; exact sum_p A l c w hb ht hlen
theorem rsumRd_p (v : Value) (l : List UInt8) (w : World) (hv : RdB w v l) (hlen : l.length ≤ 140737488355328) : PureC Tryd.prog 106 [v] (b32 (sumOn 0 l)) w := by
  obtain ⟨A, c, rfl, hb, _⟩ := hv.bytes; exact rsum_p A l c w hb hlen

theorem slotWord_p (a : Int) (w : World) :
    PureC Tryd.prog 135 [.int .i64 a] (.bool (decide (SlotWd a))) w := by
  refine enter0 Tryd.func135 rfl Tryd.ntmps135 rfl ?_
  simp only [envOf]
  refine At.seq ?_
  refine At.region ?_
  refine At.val (Val.assign rfl) rfl rfl rfl ?_
  refine At.nil ?_
  refine At.thenN ?_
  refine At.seq ?_
  refine At.seq ?_
  refine At.region ?_
  refine At.val (Val.assign rfl) rfl rfl rfl ?_
  refine At.nil ?_
  refine At.thenN ?_
  refine At.block ?_
  skip
  refine At.loop (σ := Nat) (fun k => 1 ≤ k ∧ k ≤ 257 ∧ ¬ (SlotWd a ∧ (a - 2048) / 64 + 1 < k)) (fun k => [(0, .int .i64 a), (3, .int .i64 (k : Int))]) (fun k => []) (fun k => 257 - k) 1 ⟨by omega, by omega, fun h => by have h1 := h.1; unfold SlotWd at h1; omega⟩ (Sub.cons rfl (Sub.cons rfl Sub.nil)) (List.Perm.refl _) ?_
  intro k hs
  refine At.seq ?_
  refine At.seq ?_
  refine At.region ?_
  refine At.val (Val.move rfl) rfl rfl rfl ?_
  refine At.val (Val.bin rfl rfl rfl) rfl rfl rfl ?_
  refine At.nil ?_
  refine At.thenN ?_
  refine At.cond rfl (fun h1 => ?_) (fun h1 => ?_)
  · skip
    try simp only [vN_T, vN_F, nmE_T, nmE_F, wI_T, wI_F, data_T, data_F, ino_T, ino_F, notT, notF, bneT, bneF, beqT, beqF, decT, decF] at h1
    have hk : k ≤ 256 := by omega
    refine At.skipC ?_
    refine At.thenN ?_
    refine At.seq ?_
    refine At.block ?_
    refine At.seq ?_
    refine At.region ?_
    refine At.val (Val.move rfl) rfl rfl rfl ?_
    refine At.callP (fun w hw => slotAtR_p k w) Tryd.call25 rfl rfl ?_
    refine At.val (Val.assign rfl) rfl rfl rfl ?_
    refine At.nil ?_
    rw [slotAt_T (ino_T.2 ⟨by omega, by omega⟩)]
    refine At.thenN ?_
    refine At.seq ?_
    refine At.region ?_
    refine At.weaken [(0, _), (3, _), (5, _), (6, _), (9, _), (10, _), (4, _)] (Sub.cons rfl (Sub.cons rfl (Sub.cons rfl (Sub.cons rfl (Sub.cons rfl (Sub.cons rfl (Sub.cons rfl Sub.nil))))))) ?_
    refine At.boolMeet 15 25 (decide (a = 2048 + 64 * ((k : Int) - 1) ∨ a = 2048 + 64 * ((k : Int) - 1) + 8 ∨ a = 2048 + 64 * ((k : Int) - 1) + 16)) ?_ ?_
    · skip
      simp only [List.take_succ_cons, List.take_zero]
      refine At.val (Val.move rfl) rfl rfl rfl ?_
      refine At.val (Val.move rfl) rfl rfl rfl ?_
      refine At.val (Val.bin rfl rfl rfl) rfl rfl rfl ?_
      refine At.val (Val.move rfl) rfl rfl rfl ?_
      refine At.split (t := 14) rfl (fun h2 => ?_) (fun h2 => ?_)
      · skip
        try simp only [vN_T, vN_F, nmE_T, nmE_F, wI_T, wI_F, data_T, data_F, ino_T, ino_F, notT, notF, bneT, bneF, beqT, beqF, decT, decF] at h2
        refine At.no rfl rfl rfl rfl ?_
        refine At.no rfl rfl rfl rfl ?_
        refine At.no rfl rfl rfl rfl ?_
        refine At.no rfl rfl rfl rfl ?_
        refine At.val (Val.pickT rfl rfl) rfl rfl rfl ?_
        refine At.val (Val.move rfl) rfl rfl rfl ?_
        refine At.no rfl rfl rfl rfl ?_
        refine At.no rfl rfl rfl rfl ?_
        refine At.no rfl rfl rfl rfl ?_
        refine At.no rfl rfl rfl rfl ?_
        refine At.val (Val.pickT rfl rfl) rfl rfl rfl ?_
        refine At.nil ?_
        exact At.boolEnd rfl (by first | rfl | exact (decide_eq_true (by omega)).symm | exact (decide_eq_false (by omega)).symm | (apply Bool.eq_iff_iff.2; simp only [decide_eq_true_eq, beq_iff_eq, bne_iff_ne, ne_eq, wI_T, data_T, ino_T, vN_T, nmE_T, Bool.not_eq_true', wI_F, data_F, ino_F, vN_F, nmE_F, decide_eq_false_iff_not]; omega)) (by repeat (first | exact Sub.nil | refine Sub.cons rfl ?_))
      · skip
        try simp only [vN_T, vN_F, nmE_T, nmE_F, wI_T, wI_F, data_T, data_F, ino_T, ino_F, notT, notF, bneT, bneF, beqT, beqF, decT, decF] at h2
        refine At.yes rfl rfl ?_
        refine At.val (Val.move rfl) rfl rfl rfl ?_
        refine At.yes rfl rfl ?_
        refine At.val (Val.move rfl) rfl rfl rfl ?_
        refine At.yes rfl rfl ?_
        first | refine At.val (Val.addI rfl rfl (by omega) (by omega)) rfl rfl rfl ?_ | refine At.val (Val.bin rfl rfl rfl) rfl rfl rfl ?_
        refine At.yes rfl rfl ?_
        refine At.val (Val.bin rfl rfl rfl) rfl rfl rfl ?_
        refine At.val (Val.pickF rfl rfl) rfl rfl rfl ?_
        refine At.val (Val.move rfl) rfl rfl rfl ?_
        refine At.split (t := 20) rfl (fun h3 => ?_) (fun h3 => ?_)
        · skip
          try simp only [vN_T, vN_F, nmE_T, nmE_F, wI_T, wI_F, data_T, data_F, ino_T, ino_F, notT, notF, bneT, bneF, beqT, beqF, decT, decF] at h3
          refine At.no rfl rfl rfl rfl ?_
          refine At.no rfl rfl rfl rfl ?_
          refine At.no rfl rfl rfl rfl ?_
          refine At.no rfl rfl rfl rfl ?_
          refine At.val (Val.pickT rfl rfl) rfl rfl rfl ?_
          refine At.nil ?_
          exact At.boolEnd rfl (by first | rfl | exact (decide_eq_true (by omega)).symm | exact (decide_eq_false (by omega)).symm | (apply Bool.eq_iff_iff.2; simp only [decide_eq_true_eq, beq_iff_eq, bne_iff_ne, ne_eq, wI_T, data_T, ino_T, vN_T, nmE_T, Bool.not_eq_true', wI_F, data_F, ino_F, vN_F, nmE_F, decide_eq_false_iff_not]; omega)) (by repeat (first | exact Sub.nil | refine Sub.cons rfl ?_))
        · skip
          try simp only [vN_T, vN_F, nmE_T, nmE_F, wI_T, wI_F, data_T, data_F, ino_T, ino_F, notT, notF, bneT, bneF, beqT, beqF, decT, decF] at h3
          refine At.yes rfl rfl ?_
          refine At.val (Val.move rfl) rfl rfl rfl ?_
          refine At.yes rfl rfl ?_
          refine At.val (Val.move rfl) rfl rfl rfl ?_
          refine At.yes rfl rfl ?_
          first | refine At.val (Val.addI rfl rfl (by omega) (by omega)) rfl rfl rfl ?_ | refine At.val (Val.bin rfl rfl rfl) rfl rfl rfl ?_
          refine At.yes rfl rfl ?_
          refine At.val (Val.bin rfl rfl rfl) rfl rfl rfl ?_
          refine At.val (Val.pickF rfl rfl) rfl rfl rfl ?_
          refine At.nil ?_
          exact At.boolEnd rfl (by first | rfl | exact (decide_eq_true (by omega)).symm | exact (decide_eq_false (by omega)).symm | (apply Bool.eq_iff_iff.2; simp only [decide_eq_true_eq, beq_iff_eq, bne_iff_ne, ne_eq, wI_T, data_T, ino_T, vN_T, nmE_T, Bool.not_eq_true', wI_F, data_F, ino_F, vN_F, nmE_F, decide_eq_false_iff_not]; omega)) (by repeat (first | exact Sub.nil | refine Sub.cons rfl ?_))
    · skip
      simp only [List.drop_succ_cons, List.drop_zero]
      refine At.nil ?_
      refine At.thenN ?_
      refine At.cond rfl (fun h4 => ?_) (fun h4 => ?_)
      · skip
        try simp only [vN_T, vN_F, nmE_T, nmE_F, wI_T, wI_F, data_T, data_F, ino_T, ino_F, notT, notF, bneT, bneF, beqT, beqF, decT, decF] at h4
        refine At.seq ?_
        refine At.region ?_
        refine At.val (Val.assign rfl) rfl rfl rfl ?_
        refine At.nil ?_
        refine At.thenN ?_
        refine At.retC ?_
        refine At.blkR ?_
        refine At.thenR ?_
        refine At.thenR ?_
        refine At.blkR ?_
        refine At.thenR ?_
        refine At.ret1 (.inl rfl) rfl rfl rfl (fun w hw => ?_)
        exact ⟨retB (decide_eq_true (by unfold SlotWd; omega)).symm, hw.mod⟩
      · skip
        try simp only [vN_T, vN_F, nmE_T, nmE_F, wI_T, wI_F, data_T, data_F, ino_T, ino_F, notT, notF, bneT, bneF, beqT, beqF, decT, decF] at h4
        refine At.skipC ?_
        refine At.blkN ?_
        refine At.thenN ?_
        refine At.region ?_
        refine At.val (Val.move rfl) rfl rfl rfl ?_
        first | refine At.val (Val.addI rfl rfl (by omega) (by omega)) rfl rfl rfl ?_ | refine At.val (Val.bin rfl rfl rfl) rfl rfl rfl ?_
        refine At.val (Val.assign rfl) rfl rfl rfl ?_
        refine At.nil ?_
        refine At.thenN ?_
        exact At.again (k + 1) ⟨by omega, by omega, fun h => by have h1 := h.1; have h2 := h.2; have h3 := hs.2.2; unfold SlotWd at *; omega⟩ (by omega) (Sub.cons rfl (Sub.cons (congrArg (fun z => some (Value.int IntKind.i64 z)) (by omega)) Sub.nil)) (List.Perm.refl _)
  · skip
    try simp only [vN_T, vN_F, nmE_T, nmE_F, wI_T, wI_F, data_T, data_F, ino_T, ino_F, notT, notF, bneT, bneF, beqT, beqF, decT, decF] at h1
    obtain rfl : k = 257 := by omega
    refine At.exitC ?_
    refine At.thenX ?_
    refine At.thenX ?_
    refine At.blkX ?_
    refine At.thenN ?_
    refine At.seq ?_
    refine At.region ?_
    refine At.val (Val.assign rfl) rfl rfl rfl ?_
    refine At.nil ?_
    refine At.thenN ?_
    refine At.retC ?_
    refine At.ret1 (.inl rfl) rfl rfl rfl (fun w hw => ?_)
    exact ⟨retB (decide_eq_false (fun h => hs.2.2 ⟨h, by unfold SlotWd at h; omega⟩)).symm, hw.mod⟩

theorem goodUnR_p (v : Value) (L : List (Int × BitVec 64)) (w : World) (hv : RdP w v L) (hlen : L.length ≤ 140737488355328) :
    PureC Tryd.prog 116 [v] (.bool (decide (GoodUn L))) w := by
  refine enter0 Tryd.func116 rfl Tryd.ntmps116 rfl ?_
  simp only [envOf]
  refine At.seq ?_
  refine At.region ?_
  refine At.val (Val.assign rfl) rfl rfl rfl ?_
  refine At.nil ?_
  refine At.thenN ?_
  refine At.seq ?_
  refine At.seq ?_
  refine At.region ?_
  refine At.weaken [(0, _), (2, _)] (Sub.cons rfl (Sub.cons rfl Sub.nil)) ?_
  refine At.boolMeet 8 13 (decide (L.length = 0 ∨ 8 < L.length)) ?_ ?_
  · skip
    simp only [List.take_succ_cons, List.take_zero]
    refine At.val (Val.move rfl) rfl rfl rfl ?_
    refine At.val (Val.lenRd hv Tryd.underlying102 rfl) rfl rfl rfl ?_
    refine At.val (Val.bin rfl rfl rfl) rfl rfl rfl ?_
    refine At.val (Val.move rfl) rfl rfl rfl ?_
    refine At.split (t := 9) rfl (fun h1 => ?_) (fun h1 => ?_)
    · skip
      try simp only [vN_T, vN_F, nmE_T, nmE_F, wI_T, wI_F, data_T, data_F, ino_T, ino_F, notT, notF, bneT, bneF, beqT, beqF, decT, decF] at h1
      refine At.no rfl rfl rfl rfl ?_
      refine At.no rfl rfl rfl rfl ?_
      refine At.no rfl rfl rfl rfl ?_
      refine At.val (Val.pickT rfl rfl) rfl rfl rfl ?_
      refine At.nil ?_
      exact At.boolEnd rfl (by first | rfl | exact (decide_eq_true (by omega)).symm | exact (decide_eq_false (by omega)).symm | (apply Bool.eq_iff_iff.2; simp only [decide_eq_true_eq, beq_iff_eq, bne_iff_ne, ne_eq, wI_T, data_T, ino_T, vN_T, nmE_T, Bool.not_eq_true', wI_F, data_F, ino_F, vN_F, nmE_F, decide_eq_false_iff_not]; omega)) (by repeat (first | exact Sub.nil | refine Sub.cons rfl ?_))
    · skip
      try simp only [vN_T, vN_F, nmE_T, nmE_F, wI_T, wI_F, data_T, data_F, ino_T, ino_F, notT, notF, bneT, bneF, beqT, beqF, decT, decF] at h1
      refine At.yes rfl rfl ?_
      refine At.val (Val.move rfl) rfl rfl rfl ?_
      refine At.yes rfl rfl ?_
      refine At.val (Val.lenRd hv Tryd.underlying102 rfl) rfl rfl rfl ?_
      refine At.yes rfl rfl ?_
      refine At.val (Val.bin rfl rfl rfl) rfl rfl rfl ?_
      refine At.val (Val.pickF rfl rfl) rfl rfl rfl ?_
      refine At.nil ?_
      exact At.boolEnd rfl (by first | rfl | exact (decide_eq_true (by omega)).symm | exact (decide_eq_false (by omega)).symm | (apply Bool.eq_iff_iff.2; simp only [decide_eq_true_eq, beq_iff_eq, bne_iff_ne, ne_eq, wI_T, data_T, ino_T, vN_T, nmE_T, Bool.not_eq_true', wI_F, data_F, ino_F, vN_F, nmE_F, decide_eq_false_iff_not]; omega)) (by repeat (first | exact Sub.nil | refine Sub.cons rfl ?_))
  · skip
    simp only [List.drop_succ_cons, List.drop_zero]
    refine At.nil ?_
    refine At.thenN ?_
    refine At.cond rfl (fun h2 => ?_) (fun h2 => ?_)
    · skip
      try simp only [vN_T, vN_F, nmE_T, nmE_F, wI_T, wI_F, data_T, data_F, ino_T, ino_F, notT, notF, bneT, bneF, beqT, beqF, decT, decF] at h2
      refine At.seq ?_
      refine At.region ?_
      refine At.val (Val.assign rfl) rfl rfl rfl ?_
      refine At.nil ?_
      refine At.thenN ?_
      refine At.retC ?_
      refine At.thenR ?_
      refine At.ret1 (.inl rfl) rfl rfl rfl (fun w hw => ?_)
      exact ⟨retB (decide_eq_false (fun g => by have h1 := g.1; have h2 := g.2.1; omega)).symm, hw.mod⟩
    · skip
      try simp only [vN_T, vN_F, nmE_T, nmE_F, wI_T, wI_F, data_T, data_F, ino_T, ino_F, notT, notF, bneT, bneF, beqT, beqF, decT, decF] at h2
      refine At.skipC ?_
      refine At.thenN ?_
      refine At.seq ?_
      refine At.seq ?_
      refine At.region ?_
      refine At.val (Val.assign rfl) rfl rfl rfl ?_
      refine At.nil ?_
      refine At.thenN ?_
      refine At.block ?_
      skip
      refine At.loop (σ := Nat) (fun k => k ≤ L.length ∧ ∀ j, j < k → OkAt L j) (fun k => [(0, v), (3, .int .i64 (k : Int))]) (fun k => []) (fun k => L.length - k) 0 ⟨Nat.zero_le _, fun j h => by omega⟩ (Sub.cons rfl (Sub.cons rfl Sub.nil)) (List.Perm.refl _) ?_
      intro k hs
      refine At.seq ?_
      refine At.seq ?_
      refine At.region ?_
      refine At.val (Val.move rfl) rfl rfl rfl ?_
      refine At.val (Val.move rfl) rfl rfl rfl ?_
      refine At.val (Val.lenRd hv Tryd.underlying102 rfl) rfl rfl rfl ?_
      refine At.val (Val.bin rfl rfl rfl) rfl rfl rfl ?_
      refine At.nil ?_
      refine At.thenN ?_
      refine At.cond rfl (fun h3 => ?_) (fun h3 => ?_)
      · skip
        try simp only [vN_T, vN_F, nmE_T, nmE_F, wI_T, wI_F, data_T, data_F, ino_T, ino_F, notT, notF, bneT, bneF, beqT, beqF, decT, decF] at h3
        have hk : k < L.length := by omega
        refine At.skipC ?_
        refine At.thenN ?_
        refine At.seq ?_
        refine At.block ?_
        refine At.seq ?_
        refine At.region ?_
        refine At.val (Val.move rfl) rfl rfl rfl ?_
        refine At.val (Val.move rfl) rfl rfl rfl ?_
        refine At.idxP hv Tryd.underlying102 Tryd.sizeOf111 rfl rfl (by omega) (by omega) rfl rfl (fun b4 o5 q6 hq7 hc8 hd9 => ?_)
        refine At.val (Val.field o5 rfl fo_111_0 rfl) rfl rfl rfl ?_
        refine At.val (Val.loadOld Tryd.isAgg3 rfl hc8 (fun h => h)) rfl rfl rfl ?_
        have hqk := hq7
        rw [Int.toNat_natCast] at hqk
        refine At.callP (fun w hw => slotWord_p q6.1 w) Tryd.call135 rfl rfl ?_
        refine At.val (Val.assign rfl) rfl rfl rfl ?_
        refine At.nil ?_
        refine At.thenN ?_
        refine At.seq ?_
        refine At.seq ?_
        refine At.region ?_
        refine At.val (Val.move rfl) rfl rfl rfl ?_
        refine At.val (Val.not rfl) rfl rfl rfl ?_
        refine At.nil ?_
        refine At.thenN ?_
        refine At.cond rfl (fun h10 => ?_) (fun h10 => ?_)
        · skip
          try simp only [vN_T, vN_F, nmE_T, nmE_F, wI_T, wI_F, data_T, data_F, ino_T, ino_F, notT, notF, bneT, bneF, beqT, beqF, decT, decF] at h10
          have hno := h10
          refine At.seq ?_
          refine At.region ?_
          refine At.val (Val.assign rfl) rfl rfl rfl ?_
          refine At.nil ?_
          refine At.thenN ?_
          refine At.retC ?_
          refine At.thenR ?_
          refine At.blkR ?_
          refine At.thenR ?_
          refine At.thenR ?_
          refine At.blkR ?_
          refine At.thenR ?_
          refine At.ret1 (.inl rfl) rfl rfl rfl (fun w hw => ?_)
          exact ⟨retB (decide_eq_false (good_no1 hqk hno)).symm, hw.mod⟩
        · skip
          try simp only [vN_T, vN_F, nmE_T, nmE_F, wI_T, wI_F, data_T, data_F, ino_T, ino_F, notT, notF, bneT, bneF, beqT, beqF, decT, decF] at h10
          have hyes := h10
          refine At.skipC ?_
          refine At.thenN ?_
          refine At.seq ?_
          refine At.region ?_
          refine At.val (Val.assign rfl) rfl rfl rfl ?_
          refine At.nil ?_
          refine At.thenN ?_
          refine At.block ?_
          skip
          refine At.loop (σ := Nat) (fun j => j ≤ k ∧ hasAt (L.take j) q6.1 = false) (fun j => [(0, v), (3, .int .i64 (k : Int)), (5, .int .i64 (j : Int))]) (fun j => []) (fun j => k - j) 0 ⟨Nat.zero_le _, rfl⟩ (Sub.cons rfl (Sub.cons rfl (Sub.cons rfl Sub.nil))) (List.Perm.refl _) ?_
          intro j hs'
          refine At.seq ?_
          refine At.seq ?_
          refine At.region ?_
          refine At.val (Val.move rfl) rfl rfl rfl ?_
          refine At.val (Val.move rfl) rfl rfl rfl ?_
          refine At.val (Val.bin rfl rfl rfl) rfl rfl rfl ?_
          refine At.nil ?_
          refine At.thenN ?_
          refine At.cond rfl (fun h11 => ?_) (fun h11 => ?_)
          · skip
            try simp only [vN_T, vN_F, nmE_T, nmE_F, wI_T, wI_F, data_T, data_F, ino_T, ino_F, notT, notF, bneT, bneF, beqT, beqF, decT, decF] at h11
            have hj : j < k := by omega
            refine At.skipC ?_
            refine At.thenN ?_
            refine At.seq ?_
            refine At.block ?_
            refine At.seq ?_
            refine At.quiet rfl (by decide +kernel) ?_
            refine QAt.val (Val.move rfl) rfl rfl rfl ?_
            refine QAt.val (Val.move rfl) rfl rfl rfl ?_
            refine QAt.idxP hv Tryd.underlying102 Tryd.sizeOf111 rfl rfl (by omega) (by omega) rfl rfl (fun b12 o13 q14 hq15 hc16 hd17 => ?_)
            refine QAt.val (Val.field o13 rfl fo_111_0 rfl) rfl rfl rfl ?_
            refine QAt.val (Val.loadOld Tryd.isAgg3 rfl hc16 (fun h => h)) rfl rfl rfl ?_
            refine QAt.val (Val.move rfl) rfl rfl rfl ?_
            refine QAt.val (Val.move rfl) rfl rfl rfl ?_
            refine QAt.idxP hv Tryd.underlying102 Tryd.sizeOf111 rfl rfl (by omega) (by omega) rfl rfl (fun b18 o19 q20 hq21 hc22 hd23 => ?_)
            refine QAt.val (Val.field o19 rfl fo_111_0 rfl) rfl rfl rfl ?_
            refine QAt.val (Val.loadOld Tryd.isAgg3 rfl hc22 (fun h => h)) rfl rfl rfl ?_
            refine QAt.val (Val.bin rfl rfl rfl) rfl rfl rfl ?_
            refine QAt.fin ?_
            refine At.thenN ?_
            refine At.cond rfl (fun h24 => ?_) (fun h24 => ?_)
            · skip
              try simp only [vN_T, vN_F, nmE_T, nmE_F, wI_T, wI_F, data_T, data_F, ino_T, ino_F, notT, notF, bneT, bneF, beqT, beqF, decT, decF] at h24
              refine At.seq ?_
              refine At.region ?_
              refine At.val (Val.assign rfl) rfl rfl rfl ?_
              refine At.nil ?_
              refine At.thenN ?_
              refine At.retC ?_
              refine At.blkR ?_
              refine At.thenR ?_
              refine At.thenR ?_
              refine At.blkR ?_
              refine At.blkR ?_
              refine At.thenR ?_
              refine At.thenR ?_
              refine At.blkR ?_
              refine At.thenR ?_
              refine At.ret1 (.inl rfl) rfl rfl rfl (fun w hw => ?_)
              exact ⟨retB (decide_eq_false (good_no2 hqk (hasAt_hit (by have := hq15; rwa [Int.toNat_natCast] at this) hj (by rw [← pr_eq hq21 hqk]; assumption)))).symm, hw.mod⟩
            · skip
              try simp only [vN_T, vN_F, nmE_T, nmE_F, wI_T, wI_F, data_T, data_F, ino_T, ino_F, notT, notF, bneT, bneF, beqT, beqF, decT, decF] at h24
              refine At.skipC ?_
              refine At.blkN ?_
              refine At.thenN ?_
              refine At.region ?_
              refine At.val (Val.move rfl) rfl rfl rfl ?_
              first | refine At.val (Val.addI rfl rfl (by omega) (by omega)) rfl rfl rfl ?_ | refine At.val (Val.bin rfl rfl rfl) rfl rfl rfl ?_
              refine At.val (Val.assign rfl) rfl rfl rfl ?_
              refine At.nil ?_
              refine At.thenN ?_
              exact At.again (j + 1) ⟨by omega, hasAt_step (by have := hq15; rwa [Int.toNat_natCast] at this) (by rw [← pr_eq hq21 hqk]; assumption) hs'.2⟩ (by omega) (Sub.cons rfl (Sub.cons rfl (Sub.cons (congrArg (fun z => some (Value.int IntKind.i64 z)) (by omega)) Sub.nil))) (List.Perm.refl _)
          · skip
            try simp only [vN_T, vN_F, nmE_T, nmE_F, wI_T, wI_F, data_T, data_F, ino_T, ino_F, notT, notF, bneT, bneF, beqT, beqF, decT, decF] at h11
            obtain rfl : k = j := by omega
            refine At.exitC ?_
            refine At.thenX ?_
            refine At.thenX ?_
            refine At.blkX ?_
            refine At.blkN ?_
            refine At.thenN ?_
            refine At.region ?_
            refine At.val (Val.move rfl) rfl rfl rfl ?_
            first | refine At.val (Val.addI rfl rfl (by omega) (by omega)) rfl rfl rfl ?_ | refine At.val (Val.bin rfl rfl rfl) rfl rfl rfl ?_
            refine At.val (Val.assign rfl) rfl rfl rfl ?_
            refine At.nil ?_
            refine At.thenN ?_
            exact At.again (k + 1) ⟨by omega, fun i hi => by rcases Nat.lt_or_ge i k with h | h; exact hs.2 i h; obtain rfl : i = k := (by omega); exact okAt_of hqk hyes hs'.2⟩ (by omega) (Sub.cons rfl (Sub.cons (congrArg (fun z => some (Value.int IntKind.i64 z)) (by omega)) Sub.nil)) (List.Perm.refl _)
      · skip
        try simp only [vN_T, vN_F, nmE_T, nmE_F, wI_T, wI_F, data_T, data_F, ino_T, ino_F, notT, notF, bneT, bneF, beqT, beqF, decT, decF] at h3
        obtain rfl : k = L.length := by omega
        refine At.exitC ?_
        refine At.thenX ?_
        refine At.thenX ?_
        refine At.blkX ?_
        refine At.thenN ?_
        refine At.seq ?_
        refine At.region ?_
        refine At.val (Val.assign rfl) rfl rfl rfl ?_
        refine At.nil ?_
        refine At.thenN ?_
        refine At.retC ?_
        refine At.ret1 (.inl rfl) rfl rfl rfl (fun w hw => ?_)
        exact ⟨retB (decide_eq_true ⟨by omega, by omega, hs.2⟩).symm, hw.mod⟩

theorem packUn_n (v : Value) (L : List (Int × BitVec 64)) (w : World) (ht : Tab w) (hv : RdP w v L) (hlen : L.length ≤ 140737488355328) (hbd : ∀ c ∈ L, -9223372036854775808 ≤ c.1 ∧ c.1 ≤ 9223372036854775807) :
    NewRowT Tryd.prog 60 [v] (fun v => .tuple #[v, .int .i64 (packE L)]) 5 1 (packB L).length ((packB L).map bv) w := by
  refine enter0 Tryd.func60 rfl Tryd.ntmps60 rfl ?_
  simp only [envOf]
  refine At.seq ?_
  refine At.region ?_
  refine At.val (Val.assign rfl) rfl rfl rfl ?_
  refine At.val (Val.assign rfl) rfl rfl rfl ?_
  refine At.nil ?_
  refine At.thenN ?_
  refine At.seq ?_
  refine At.seq ?_
  refine At.region ?_
  refine At.val (Val.move rfl) rfl rfl rfl ?_
  refine At.callP (fun w hw => goodUn_p v L w (hv.mod hw.mod) hlen hbd) Tryd.call114 rfl rfl ?_
  refine At.val (Val.not rfl) rfl rfl rfl ?_
  refine At.nil ?_
  refine At.thenN ?_
  refine At.cond rfl (fun h1 => ?_) (fun h1 => ?_)
  · skip
    try simp only [vN_T, vN_F, nmE_T, nmE_F, wI_T, wI_F, data_T, data_F, ino_T, ino_F, notT, notF, bneT, bneF, beqT, beqF, decT, decF] at h1
    have hg : ¬ GoodUn L := by simpa using h1
    refine At.seq ?_
    refine At.region ?_
    refine At.val (Val.assign rfl) rfl rfl rfl ?_
    refine At.val (Val.assign rfl) rfl rfl rfl ?_
    refine At.nil ?_
    refine At.rowNilB 5 ?_
    refine At.thenN ?_
    refine At.retC ?_
    refine At.thenR ?_
    refine At.ret2 (.inl rfl) rfl rfl rfl rfl (fun w hw => ?_)
    exact ⟨_, by rw [packE_F hg], by rw [packB_F hg]; exact (hw.drop (List.singleton_sublist.2 (List.mem_of_getElem? (i := 0) rfl))).f0⟩
  · skip
    try simp only [vN_T, vN_F, nmE_T, nmE_F, wI_T, wI_F, data_T, data_F, ino_T, ino_F, notT, notF, bneT, bneF, beqT, beqF, decT, decF] at h1
    have hg : GoodUn L := by simpa using h1
    have hL8 : L.length ≤ 8 := hg.2.1
    refine At.skipC ?_
    refine At.thenN ?_
    refine At.seq ?_
    refine At.region ?_
    refine At.val (Val.assign rfl) rfl rfl rfl ?_
    refine At.nil ?_
    refine At.rowNilW 40 ?_
    refine At.thenN ?_
    refine At.seq ?_
    refine At.seq ?_
    refine At.region ?_
    refine At.val (Val.move rfl) rfl rfl rfl ?_
    refine At.val (Val.lenRd hv Tryd.underlying102 rfl) rfl rfl rfl ?_
    refine At.val (Val.move rfl) rfl rfl rfl ?_
    refine At.nil ?_
    refine At.thenN ?_
    refine At.block ?_
    skip
    refine At.loop (σ := Nat × Value) (fun s => s.1 ≤ L.length) (fun s => [(0, v), (12, v), (13, .int .i64 (L.length : Int)), (14, .int .i64 (s.1 : Int)), (4, s.2)]) (fun s => [wrow 40 s.2 (undoWs (L.take s.1))]) (fun s => L.length - s.1) (0, .slice none 0 0) (Nat.zero_le _) (Sub.cons rfl (Sub.cons rfl (Sub.cons rfl (Sub.cons rfl (Sub.cons rfl Sub.nil))))) (List.Perm.refl _) ?_
    intro s hs
    obtain ⟨k, vk⟩ := s
    dsimp only at hs ⊢
    refine At.seq ?_
    refine At.region ?_
    refine At.val (Val.bin rfl rfl rfl) rfl rfl rfl ?_
    refine At.nil ?_
    refine At.thenN ?_
    refine At.seq ?_
    refine At.cond rfl (fun h2 => ?_) (fun h2 => ?_)
    · skip
      try simp only [vN_T, vN_F, nmE_T, nmE_F, wI_T, wI_F, data_T, data_F, ino_T, ino_F, notT, notF, bneT, bneF, beqT, beqF, decT, decF] at h2
      have hk : k < L.length := by omega
      refine At.skipC ?_
      refine At.thenN ?_
      refine At.seq ?_
      refine At.block ?_
      refine At.seq ?_
      refine At.region ?_
      refine At.idxP hv Tryd.underlying102 Tryd.sizeOf111 rfl rfl (by omega) (by omega) rfl rfl (fun b3 o4 q5 hq6 hc7 hd8 => ?_)
      refine At.val (Val.loadPair Tryd.isAgg111 Tryd.sizeOf111 rfl hc7 hd8 (fun h => h)) rfl rfl rfl ?_
      refine At.alloc Tryd.zeroValue111 rfl rfl (fun b9 => ?_)
      refine At.storeAll (i := 0) Tryd.sizeOf111 rfl rfl rfl (by simp [Value.oneCell']) rfl rfl ?_
      simp only [List.set_cons_zero, List.set_cons_succ]
      refine At.nil ?_
      refine At.thenN ?_
      refine At.region ?_
      refine At.val (Val.move rfl) rfl rfl rfl ?_
      refine At.val (Val.field 0 rfl fo_111_0 rfl) rfl rfl rfl ?_
      refine At.val (Val.load (i := 0) Tryd.isAgg3 rfl rfl rfl) rfl rfl rfl ?_
      refine At.val (Val.conv Tryd.underlying3 Tryd.underlying40 rfl) rfl rfl rfl ?_
      rw [wrap_u64_int q5.1]
      refine At.val (Val.field 1 rfl fo_111_1 rfl) rfl rfl rfl ?_
      refine At.val (Val.load (i := 0) Tryd.isAgg40 rfl rfl rfl) rfl rfl rfl ?_
      refine At.buildSl (fun a ha => by simp only [List.map_toArray, List.map_cons, List.map_nil, ha.eval (x := (.tmp 21)) rfl, ha.eval (x := (.tmp 23)) rfl]; try rfl) (bs_156_2 _ _ ) rfl (fun b10 => ?_)
      refine At.appendWs (i := 2) (j := 0) (ms := [BitVec.ofInt 64 q5.1, q5.2]) (by_ := 8) Tryd.underlying156 info_40 rfl rfl rfl rfl rfl rfl rfl rfl rfl (by rw [undoWs_length, List.length_take]; omega) (by rw [undoWs_length, List.length_take]; omega) rfl (fun v11 => ?_)
      simp only [List.set_cons_zero, List.set_cons_succ]
      refine At.drop 0 ?_
      simp only [List.eraseIdx_cons_zero, List.eraseIdx_cons_succ]
      refine At.val (Val.assign rfl) rfl rfl rfl ?_
      refine At.nil ?_
      refine At.blkN ?_
      refine At.thenN ?_
      refine At.region ?_
      first | refine At.val (Val.addI rfl rfl (by omega) (by omega)) rfl rfl rfl ?_ | refine At.val (Val.bin rfl rfl rfl) rfl rfl rfl ?_
      refine At.val (Val.move rfl) rfl rfl rfl ?_
      refine At.nil ?_
      refine At.thenN ?_
      refine At.drop 0 ?_
      simp only [List.eraseIdx_cons_zero, List.eraseIdx_cons_succ]
      exact At.again (k + 1, v11) (show k + 1 ≤ _ by omega) (by dsimp only; omega) (Sub.cons rfl (Sub.cons rfl (Sub.cons rfl (Sub.cons (congrArg (fun z => some (Value.int IntKind.i64 z)) (by omega)) (Sub.cons rfl Sub.nil))))) (by rw [List.take_succ_of_get (by have := hq6; rwa [Int.toNat_natCast] at this), undoWs_snoc])
    · skip
      try simp only [vN_T, vN_F, nmE_T, nmE_F, wI_T, wI_F, data_T, data_F, ino_T, ino_F, notT, notF, bneT, bneF, beqT, beqF, decT, decF] at h2
      obtain rfl : k = L.length := by omega
      rw [List.take_length]
      refine At.exitC ?_
      refine At.thenX ?_
      refine At.thenX ?_
      refine At.blkX ?_
      refine At.thenN ?_
      refine At.seq ?_
      refine At.region ?_
      refine At.val (Val.move rfl) rfl rfl rfl ?_
      refine At.callN (fun w hw => recBytes_n _ L w (row_rd (hw.row (i := 0) rfl) (by decide)) hL8) Tryd.call103 rfl rfl (fun v12 => ?_)
      refine At.val (Val.assign rfl) rfl rfl rfl ?_
      refine At.nil ?_
      refine At.thenN ?_
      refine At.seq ?_
      refine At.region ?_
      refine At.makeRowB (n := 64) Tryd.underlying54 info_5 rfl rfl rfl rfl rfl (by omega) rfl (fun v13 => ?_)
      refine At.val (Val.assign rfl) rfl rfl rfl ?_
      refine At.nil ?_
      refine At.thenN ?_
      refine At.seq ?_
      refine At.region ?_
      refine At.val (Val.move rfl) rfl rfl rfl ?_
      refine At.val (Val.move rfl) rfl rfl rfl ?_
      refine At.val (Val.lenRd hv Tryd.underlying102 rfl) rfl rfl rfl ?_
      refine At.val (Val.conv Tryd.underlying3 Tryd.underlying48 rfl) rfl rfl rfl ?_
      rw [wrap_u32_int (L.length : Int)]
      refine At.callP (fun w hw => seal_p 512 (BitVec.ofInt 32 (L.length : Int)) w (ht.mod hw.mod)) Tryd.call91 rfl rfl ?_
      refine At.val (Val.move rfl) rfl rfl rfl ?_
      refine At.callP (fun w hw => sumRd_p _ (recB L) w (row_rd (hw.row (i := 1) rfl) (by decide)) (ht.mod hw.mod) (by rw [recB_length]; omega)) Tryd.call115 rfl rfl ?_
      refine At.callP (fun w hw => seal_p 520 (sumOn 0 (recB L)) w (ht.mod hw.mod)) Tryd.call91 rfl rfl ?_
      refine At.buildSl (fun a ha => by simp only [List.map_toArray, List.map_cons, List.map_nil, ha.eval (x := (.tmp 34)) rfl, ha.eval (x := (.tmp 37)) rfl]; try rfl) (bs_156_2 _ _ ) rfl (fun b14 => ?_)
      refine At.callN (fun w hw => headBytes_n _ (L.length : Int) (sumOn 0 (recB L)) w ((hw.blk (i := 0) rfl).words rfl)) Tryd.call103 rfl rfl (fun v15 => ?_)
      refine At.rowSome (i := 2) rfl (by decide) (fun b16 c17 hv => ?_)
      subst hv
      refine At.copyRowB (i := 2) (j := 0) (o := 0) Tryd.underlying54 Tryd.sizeOf5 rfl rfl rfl rfl (by rw [headB_length]; decide) (by rw [headB_length]; decide) (by rw [headB_length]; decide) rfl ?_
      simp only [List.set_cons_zero, List.set_cons_succ]
      rw [over_head]
      refine At.nil ?_
      refine At.thenN ?_
      refine At.seq ?_
      refine At.region ?_
      refine At.val (Val.move rfl) rfl rfl rfl ?_
      refine At.val (Val.move rfl) rfl rfl rfl ?_
      refine At.appendRowB (i := 2) (j := 3) (by_ := 1) Tryd.underlying54 info_5 rfl rfl rfl rfl rfl rfl rfl rfl (by rw [List.length_append, headB_length, zs_length, recB_length]; omega) (by rw [List.length_append, headB_length, zs_length, recB_length]; omega) rfl (fun v18 => ?_)
      simp only [List.set_cons_zero, List.set_cons_succ]
      refine At.val (Val.assign rfl) rfl rfl rfl ?_
      refine At.val (Val.assign rfl) rfl rfl rfl ?_
      refine At.nil ?_
      refine At.thenN ?_
      refine At.retC ?_
      refine At.ret2 (.inl rfl) rfl rfl rfl rfl (fun w hw => ?_)
      exact ⟨_, by rw [packE_T hg], by rw [packB_T hg]; exact (hw.drop (List.singleton_sublist.2 (List.mem_of_getElem? (i := 2) rfl))).f0⟩

end Go.Proofs.YtoiebgnmknbkjaaDoor
