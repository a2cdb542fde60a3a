/- Marks. -/
import Derived.Test.YtoiebgnmknbkjaaDoorA3
import Derived.Test.YtoiebgnmknbkjaaDoorB2
import Derived.Test.YtoiebgnmknbkjaaDoorWv
set_option linter.unusedVariables false
set_option linter.unusedSimpArgs false
namespace Go.Proofs.YtoiebgnmknbkjaaDoor
open Go Go.Wk
theorem marks_u (v : Value) (l : List UInt8) (c : UInt8) (w : World) (ho : w.ownsRow 0 5 1 v l.length (l.map bv)) (hlen : l.length ≤ 1000000) :
    Use Tryd.prog 52 [v, bv c] (brow 5 v l) (.tuple #[]) w := by
  refine enter (feet [brow 5 v l]) [brow 5 v l] Tryd.func52 rfl Tryd.ntmps52 rfl (Rep.one ho) ?_
  simp only [envOf]
  refine At.seq ?_
  refine At.seq ?_
  refine At.region ?_
  refine At.val (Val.assign rfl) rfl rfl rfl ?_
  refine At.nil ?_
  refine At.thenN ?_
  refine At.block ?_
  skip
  refine At.loop (σ := Nat × List UInt8) (fun s => s.1 ≤ l.length ∧ s.2.length = l.length) (fun s => [(1, bv c), (0, v), (4, .int .i64 (s.1 : Int))]) (fun s => [brow 5 v s.2]) (fun s => l.length - s.1) (0, l) ⟨Nat.zero_le _, rfl⟩ (Sub.cons rfl (Sub.cons rfl (Sub.cons rfl Sub.nil))) (List.Perm.refl _) ?_
  intro s hs
  obtain ⟨k, m⟩ := s
  dsimp only at hs ⊢
  refine At.seq ?_
  refine At.seq ?_
  refine At.region ?_
  refine At.val (Val.move rfl) rfl rfl rfl ?_
  refine At.val (Val.move rfl) rfl rfl rfl ?_
  refine At.val (Val.lenRow (i := 0) Tryd.underlying54 rfl rfl) rfl rfl rfl ?_
  refine At.val (Val.bin rfl rfl rfl) rfl rfl rfl ?_
  refine At.nil ?_
  refine At.thenN ?_
  refine At.cond rfl (fun h1 => ?_) (fun h1 => ?_)
  · skip
    try simp only [vN_T, vN_F, nmE_T, nmE_F, wI_T, wI_F, data_T, data_F, ino_T, ino_F, notT, notF, bneT, bneF, beqT, beqF, decT, decF] at h1
    have hk : k < l.length := by omega
    refine At.skipC ?_
    refine At.thenN ?_
    refine At.seq ?_
    refine At.block ?_
    refine At.region ?_
    refine At.val (Val.move rfl) rfl rfl rfl ?_
    refine At.val (Val.move rfl) rfl rfl rfl ?_
    refine At.val (Val.move rfl) rfl rfl rfl ?_
    refine At.idxRowB (i := 0) rfl Tryd.underlying54 Tryd.sizeOf5 rfl rfl (by omega) (by omega) rfl rfl (fun q2 hq3 hl4 => ?_)
    refine At.storeRowB (i := 0) (c := c) Tryd.sizeOf5 rfl rfl rfl (by omega) ?_
    simp only [List.set_cons_zero, List.set_cons_succ]
    refine At.nil ?_
    refine At.blkN ?_
    refine At.thenN ?_
    refine At.region ?_
    refine At.val (Val.move rfl) rfl rfl rfl ?_
    first | refine At.val (Val.addI rfl rfl (by omega) (by omega)) rfl rfl rfl ?_ | refine At.val (Val.bin rfl rfl rfl) rfl rfl rfl ?_
    refine At.val (Val.assign rfl) rfl rfl rfl ?_
    refine At.nil ?_
    refine At.thenN ?_
    exact At.again (k + 1, m.set (k : Int).toNat c) ⟨(show k + 1 ≤ _ by omega), by rw [List.length_set]; exact hs.2⟩ (by dsimp only; omega) (Sub.cons rfl (Sub.cons rfl (Sub.cons (congrArg (fun z => some (Value.int IntKind.i64 z)) (by omega)) Sub.nil))) (List.Perm.refl _)
  · skip
    try simp only [vN_T, vN_F, nmE_T, nmE_F, wI_T, wI_F, data_T, data_F, ino_T, ino_F, notT, notF, bneT, bneF, beqT, beqF, decT, decF] at h1
    refine At.exitC ?_
    refine At.thenX ?_
    refine At.thenX ?_
    refine At.blkX ?_
    refine At.thenN ?_
    refine At.seq ?_
    refine At.region ?_
    refine At.val (Val.move rfl) rfl rfl rfl ?_
    refine At.val (Val.move rfl) rfl rfl rfl ?_
    refine At.val (Val.move rfl) rfl rfl rfl ?_
    refine At.val (Val.move rfl) rfl rfl rfl ?_
    refine At.buildSl (fun a ha => by simp only [List.map_toArray, List.map_cons, List.map_nil, ha.eval (x := (.tmp 18)) rfl, ha.eval (x := (.tmp 19)) rfl, ha.eval (x := (.tmp 20)) rfl]; try rfl) (bs_54_3 _ _ _ ) rfl (fun b5 => ?_)
    refine At.appendBlkB (i := 1) (j := 0) (m := [c, c, c]) (by_ := 1) Tryd.underlying54 info_5 rfl rfl rfl rfl rfl rfl rfl rfl rfl (by omega) (by omega) rfl (fun v6 => ?_)
    simp only [List.set_cons_zero, List.set_cons_succ]
    refine At.val (Val.assign rfl) rfl rfl rfl ?_
    refine At.nil ?_
    generalize hm' : m ++ [c, c, c] = m'
    have hml : m'.length ≤ 1000003 := by rw [← hm', List.length_append]; simp; omega
    refine At.thenN ?_
    refine At.seq ?_
    refine At.region ?_
    refine At.val (Val.assign rfl) rfl rfl rfl ?_
    refine At.nil ?_
    refine At.thenN ?_
    refine At.block ?_
    skip
    refine At.drop 0 ?_
    simp only [List.eraseIdx_cons_zero, List.eraseIdx_cons_succ]
    refine At.loop (σ := Nat × List UInt8) (fun s => s.1 ≤ m'.length ∧ s.2.length = m'.length) (fun s => [(1, bv c), (5, v6), (6, .int .i64 (s.1 : Int))]) (fun s => [brow 5 v6 s.2]) (fun s => m'.length - s.1) (0, m') ⟨Nat.zero_le _, rfl⟩ (Sub.cons rfl (Sub.cons rfl (Sub.cons rfl Sub.nil))) (List.Perm.refl _) ?_
    intro s hs
    obtain ⟨k, m⟩ := s
    dsimp only at hs ⊢
    refine At.seq ?_
    refine At.seq ?_
    refine At.region ?_
    refine At.val (Val.move rfl) rfl rfl rfl ?_
    refine At.val (Val.move rfl) rfl rfl rfl ?_
    refine At.val (Val.lenRow (i := 0) Tryd.underlying54 rfl rfl) rfl rfl rfl ?_
    refine At.val (Val.bin rfl rfl rfl) rfl rfl rfl ?_
    refine At.nil ?_
    refine At.thenN ?_
    refine At.cond rfl (fun h7 => ?_) (fun h7 => ?_)
    · skip
      try simp only [vN_T, vN_F, nmE_T, nmE_F, wI_T, wI_F, data_T, data_F, ino_T, ino_F, notT, notF, bneT, bneF, beqT, beqF, decT, decF] at h7
      have hk : k < m'.length := by omega
      refine At.skipC ?_
      refine At.thenN ?_
      refine At.seq ?_
      refine At.block ?_
      refine At.region ?_
      refine At.val (Val.move rfl) rfl rfl rfl ?_
      refine At.val (Val.move rfl) rfl rfl rfl ?_
      refine At.val (Val.move rfl) rfl rfl rfl ?_
      refine At.idxRowB (i := 0) rfl Tryd.underlying54 Tryd.sizeOf5 rfl rfl (by omega) (by omega) rfl rfl (fun q8 hq9 hl10 => ?_)
      refine At.storeRowB (i := 0) (c := c) Tryd.sizeOf5 rfl rfl rfl (by omega) ?_
      simp only [List.set_cons_zero, List.set_cons_succ]
      refine At.nil ?_
      refine At.blkN ?_
      refine At.thenN ?_
      refine At.region ?_
      refine At.val (Val.move rfl) rfl rfl rfl ?_
      first | refine At.val (Val.addI rfl rfl (by omega) (by omega)) rfl rfl rfl ?_ | refine At.val (Val.bin rfl rfl rfl) rfl rfl rfl ?_
      refine At.val (Val.assign rfl) rfl rfl rfl ?_
      refine At.nil ?_
      refine At.thenN ?_
      exact At.again (k + 1, m.set (k : Int).toNat c) ⟨(show k + 1 ≤ _ by omega), by rw [List.length_set]; exact hs.2⟩ (by dsimp only; omega) (Sub.cons rfl (Sub.cons rfl (Sub.cons (congrArg (fun z => some (Value.int IntKind.i64 z)) (by omega)) Sub.nil))) (List.Perm.refl _)
    · skip
      try simp only [vN_T, vN_F, nmE_T, nmE_F, wI_T, wI_F, data_T, data_F, ino_T, ino_F, notT, notF, bneT, bneF, beqT, beqF, decT, decF] at h7
      refine At.exitC ?_
      refine At.thenX ?_
      refine At.thenX ?_
      refine At.blkX ?_
      refine At.ret0 (.inr rfl) rfl rfl  (fun w hw => ?_)
      exact ⟨rfl, hw.drop (List.nil_sublist _)⟩

end Go.Proofs.YtoiebgnmknbkjaaDoor
