/- The document's undos packed; its words. -/
import Derived.Test.YtoiebgnmknbkjaaDoorB25
import Derived.Test.YtoiebgnmknbkjaaDoorPa
import Derived.Test.YtoiebgnmknbkjaaDoorB7
set_option linter.unusedVariables false
set_option linter.unusedSimpArgs false
namespace Go.Proofs.YtoiebgnmknbkjaaDoor
open Go Go.Wk
theorem packUnR_n (v : Value) (L : List (Int × BitVec 64)) (w : World) (hv : RdP w v L) (hlen : L.length ≤ 140737488355328) :
    NewRowT Tryd.prog 61 [v] (fun v => .tuple #[v, .int .i64 (packE L)]) 5 1 (packB L).length ((packB L).map bv) w := by
  refine enter0 Tryd.func61 rfl Tryd.ntmps61 rfl ?_
  simp only [envOf]
  refine At.seq ?_
  refine At.region ?_
  refine At.val (Val.assign rfl) rfl rfl rfl ?_
  refine At.val (Val.assign rfl) rfl rfl rfl ?_
  refine At.nil ?_
  refine At.thenN ?_
  refine At.seq ?_
  refine At.region ?_
  refine At.val (Val.move rfl) rfl rfl rfl ?_
  refine At.callP (fun w hw => goodUnR_p v L w (hv.mod hw.mod) hlen) Tryd.call116 rfl rfl ?_
  refine At.val (Val.assign rfl) rfl rfl rfl ?_
  refine At.nil ?_
  refine At.thenN ?_
  refine At.seq ?_
  refine At.seq ?_
  refine At.region ?_
  refine At.val (Val.move rfl) rfl rfl rfl ?_
  refine At.val (Val.not rfl) rfl rfl rfl ?_
  refine At.nil ?_
  refine At.thenN ?_
  refine At.cond rfl (fun h1 => ?_) (fun h1 => ?_)
  · skip
    try simp only [vN_T, vN_F, nmE_T, nmE_F, wI_T, wI_F, data_T, data_F, ino_T, ino_F, notT, notF, bneT, bneF, beqT, beqF, decT, decF] at h1
    have hg : ¬ GoodUn L := by simpa using h1
    refine At.seq ?_
    refine At.region ?_
    refine At.val (Val.assign rfl) rfl rfl rfl ?_
    refine At.val (Val.assign rfl) rfl rfl rfl ?_
    refine At.nil ?_
    refine At.rowNilB 5 ?_
    refine At.thenN ?_
    refine At.retC ?_
    refine At.thenR ?_
    refine At.ret2 (.inl rfl) rfl rfl rfl rfl (fun w hw => ?_)
    exact ⟨_, by rw [packE_F hg], by rw [packB_F hg]; exact (hw.drop (List.singleton_sublist.2 (List.mem_of_getElem? (i := 0) rfl))).f0⟩
  · skip
    try simp only [vN_T, vN_F, nmE_T, nmE_F, wI_T, wI_F, data_T, data_F, ino_T, ino_F, notT, notF, bneT, bneF, beqT, beqF, decT, decF] at h1
    have hg : GoodUn L := by simpa using h1
    have hL8 : L.length ≤ 8 := hg.2.1
    refine At.skipC ?_
    refine At.thenN ?_
    refine At.seq ?_
    refine At.region ?_
    refine At.val (Val.assign rfl) rfl rfl rfl ?_
    refine At.nil ?_
    refine At.rowNilB 5 ?_
    refine At.thenN ?_
    refine At.seq ?_
    refine At.seq ?_
    refine At.region ?_
    refine At.val (Val.assign rfl) rfl rfl rfl ?_
    refine At.nil ?_
    refine At.thenN ?_
    refine At.block ?_
    skip
    refine At.loop (σ := Nat × Value) (fun s => s.1 ≤ L.length) (fun s => [(0, v), (5, s.2), (6, .int .i64 (s.1 : Int))]) (fun s => [brow 5 s.2 (recB (L.take s.1))]) (fun s => L.length - s.1) (0, .slice none 0 0) (Nat.zero_le _) (Sub.cons rfl (Sub.cons rfl (Sub.cons rfl Sub.nil))) (List.Perm.refl _) ?_
    intro s hs
    obtain ⟨k, vk⟩ := s
    dsimp only at hs ⊢
    refine At.seq ?_
    refine At.seq ?_
    refine At.region ?_
    refine At.val (Val.move rfl) rfl rfl rfl ?_
    refine At.val (Val.move rfl) rfl rfl rfl ?_
    refine At.val (Val.lenRd hv Tryd.underlying102 rfl) rfl rfl rfl ?_
    refine At.val (Val.bin rfl rfl rfl) rfl rfl rfl ?_
    refine At.nil ?_
    refine At.thenN ?_
    refine At.cond rfl (fun h2 => ?_) (fun h2 => ?_)
    · skip
      try simp only [vN_T, vN_F, nmE_T, nmE_F, wI_T, wI_F, data_T, data_F, ino_T, ino_F, notT, notF, bneT, bneF, beqT, beqF, decT, decF] at h2
      have hk : k < L.length := by omega
      refine At.skipC ?_
      refine At.thenN ?_
      refine At.seq ?_
      refine At.block ?_
      refine At.seq ?_
      refine At.region ?_
      refine At.val (Val.move rfl) rfl rfl rfl ?_
      refine At.val (Val.move rfl) rfl rfl rfl ?_
      refine At.val (Val.move rfl) rfl rfl rfl ?_
      refine At.idxP hv Tryd.underlying102 Tryd.sizeOf111 rfl rfl (by omega) (by omega) rfl rfl (fun b3 o4 q5 hq6 hc7 hd8 => ?_)
      refine At.val (Val.field o4 rfl fo_111_0 rfl) rfl rfl rfl ?_
      refine At.val (Val.loadOld Tryd.isAgg3 rfl hc7 (fun h => h)) rfl rfl rfl ?_
      refine At.val (Val.conv Tryd.underlying3 Tryd.underlying40 rfl) rfl rfl rfl ?_
      rw [wrap_u64_int q5.1]
      refine At.callR 0 rfl (fun w hw hr => rlay_p _ (recB (L.take k)) ((BitVec.ofInt 64 q5.1).toNat) 8 w hr (by have := BitVec.isLt ((BitVec.ofInt 64 q5.1)); omega) (by decide) (by rw [recB_length, List.length_take]; omega)) Tryd.call79 rfl rfl (fun v9 => ?_)
      simp only [List.set_cons_zero, List.set_cons_succ]
      refine At.val (Val.assign rfl) rfl rfl rfl ?_
      refine At.nil ?_
      refine At.thenN ?_
      refine At.region ?_
      refine At.val (Val.move rfl) rfl rfl rfl ?_
      refine At.val (Val.move rfl) rfl rfl rfl ?_
      refine At.val (Val.move rfl) rfl rfl rfl ?_
      refine At.idxP hv Tryd.underlying102 Tryd.sizeOf111 rfl rfl (by omega) (by omega) rfl rfl (fun b10 o11 q12 hq13 hc14 hd15 => ?_)
      refine At.val (Val.field (o11 + 1) rfl fo_111_1 rfl) rfl rfl rfl ?_
      refine At.val (Val.loadOld Tryd.isAgg40 rfl hd15 (fun h => h)) rfl rfl rfl ?_
      rw [pr_eq hq13 ((by have := hq6; rwa [Int.toNat_natCast] at this))]
      refine At.callR 0 rfl (fun w hw hr => rlay_p _ ((recB (L.take k)) ++ le 8 ((BitVec.ofInt 64 q5.1).toNat)) ((q5.2).toNat) 8 w hr (by have := BitVec.isLt ((q5.2)); omega) (by decide) (by rw [List.length_append, le_length, recB_length, List.length_take]; omega)) Tryd.call79 rfl rfl (fun v16 => ?_)
      simp only [List.set_cons_zero, List.set_cons_succ]
      refine At.val (Val.assign rfl) rfl rfl rfl ?_
      refine At.nil ?_
      refine At.blkN ?_
      refine At.thenN ?_
      refine At.region ?_
      refine At.val (Val.move rfl) rfl rfl rfl ?_
      first | refine At.val (Val.addI rfl rfl (by omega) (by omega)) rfl rfl rfl ?_ | refine At.val (Val.bin rfl rfl rfl) rfl rfl rfl ?_
      refine At.val (Val.assign rfl) rfl rfl rfl ?_
      refine At.nil ?_
      refine At.thenN ?_
      exact At.again (k + 1, v16) (show k + 1 ≤ _ by omega) (by dsimp only; omega) (Sub.cons rfl (Sub.cons rfl (Sub.cons (congrArg (fun z => some (Value.int IntKind.i64 z)) (by omega)) Sub.nil))) (by rw [List.take_succ_of_get (by have := hq6; rwa [Int.toNat_natCast] at this), recB_snoc])
    · skip
      try simp only [vN_T, vN_F, nmE_T, nmE_F, wI_T, wI_F, data_T, data_F, ino_T, ino_F, notT, notF, bneT, bneF, beqT, beqF, decT, decF] at h2
      obtain rfl : k = L.length := by omega
      rw [List.take_length]
      refine At.exitC ?_
      refine At.thenX ?_
      refine At.thenX ?_
      refine At.blkX ?_
      refine At.thenN ?_
      refine At.seq ?_
      refine At.region ?_
      refine At.val (Val.move rfl) rfl rfl rfl ?_
      refine At.callP (fun w hw => rsumRd_p _ (recB L) w (row_rd (hw.row (i := 0) rfl) (by decide)) (by rw [recB_length]; omega)) Tryd.call106 rfl rfl ?_
      refine At.val (Val.assign rfl) rfl rfl rfl ?_
      refine At.nil ?_
      refine At.thenN ?_
      refine At.seq ?_
      refine At.region ?_
      refine At.val (Val.assign rfl) rfl rfl rfl ?_
      refine At.nil ?_
      refine At.rowNilB 5 ?_
      refine At.thenN ?_
      refine At.seq ?_
      refine At.region ?_
      refine At.val (Val.move rfl) rfl rfl rfl ?_
      refine At.val (Val.lenRd hv Tryd.underlying102 rfl) rfl rfl rfl ?_
      refine At.val (Val.conv Tryd.underlying3 Tryd.underlying48 rfl) rfl rfl rfl ?_
      rw [wrap_u32_int (L.length : Int)]
      refine At.callP (fun w hw => sealR_p 512 (BitVec.ofInt 32 (L.length : Int)) w) Tryd.call94 rfl rfl ?_
      refine At.val (Val.assign rfl) rfl rfl rfl ?_
      refine At.nil ?_
      refine At.thenN ?_
      refine At.seq ?_
      refine At.region ?_
      refine At.val (Val.move rfl) rfl rfl rfl ?_
      refine At.val (Val.move rfl) rfl rfl rfl ?_
      refine At.callR 0 rfl (fun w hw hr => rlay_p _ ([] : List UInt8) ((sealW (BitVec.ofInt 64 512) (BitVec.ofInt 32 (L.length : Int))).toNat) 8 w hr (by have := BitVec.isLt ((sealW (BitVec.ofInt 64 512) (BitVec.ofInt 32 (L.length : Int)))); omega) (by decide) (by decide)) Tryd.call79 rfl rfl (fun v17 => ?_)
      simp only [List.set_cons_zero, List.set_cons_succ]
      refine At.val (Val.assign rfl) rfl rfl rfl ?_
      refine At.nil ?_
      refine At.thenN ?_
      refine At.seq ?_
      refine At.region ?_
      refine At.val (Val.move rfl) rfl rfl rfl ?_
      refine At.callP (fun w hw => sealR_p 520 (sumOn 0 (recB L)) w) Tryd.call94 rfl rfl ?_
      refine At.val (Val.assign rfl) rfl rfl rfl ?_
      refine At.nil ?_
      refine At.thenN ?_
      refine At.seq ?_
      refine At.region ?_
      refine At.val (Val.move rfl) rfl rfl rfl ?_
      refine At.val (Val.move rfl) rfl rfl rfl ?_
      refine At.callR 0 rfl (fun w hw hr => rlay_p _ (([] : List UInt8) ++ le 8 ((sealW (BitVec.ofInt 64 512) (BitVec.ofInt 32 (L.length : Int))).toNat)) ((sealW (BitVec.ofInt 64 520) (sumOn 0 (recB L))).toNat) 8 w hr (by have := BitVec.isLt ((sealW (BitVec.ofInt 64 520) (sumOn 0 (recB L)))); omega) (by decide) (by rw [List.length_append, le_length]; decide)) Tryd.call79 rfl rfl (fun v18 => ?_)
      simp only [List.set_cons_zero, List.set_cons_succ]
      refine At.val (Val.assign rfl) rfl rfl rfl ?_
      refine At.nil ?_
      rw [show (([] : List UInt8) ++ le 8 ((sealW (BitVec.ofInt 64 512) (BitVec.ofInt 32 (L.length : Int))).toNat) ++ le 8 ((sealW (BitVec.ofInt 64 520) (sumOn 0 (recB L))).toNat)) = (headB (L.length : Int) (sumOn 0 (recB L))) from rfl]
      refine At.thenN ?_
      refine At.seq ?_
      refine At.region ?_
      refine At.val (Val.move rfl) rfl rfl rfl ?_
      refine At.callR 0 rfl (fun w hw hr => filled_p _ (headB (L.length : Int) (sumOn 0 (recB L))) 64 w hr (by rw [headB_length]; decide) (by decide)) Tryd.call117 rfl rfl (fun v19 => ?_)
      simp only [List.set_cons_zero, List.set_cons_succ]
      refine At.val (Val.assign rfl) rfl rfl rfl ?_
      refine At.nil ?_
      rw [show 64 - (headB (L.length : Int) (sumOn 0 (recB L))).length = 48 from by rw [headB_length]]
      refine At.thenN ?_
      refine At.seq ?_
      refine At.seq ?_
      have hrl := recB_length L
      refine At.region ?_
      refine At.val (Val.assign rfl) rfl rfl rfl ?_
      refine At.nil ?_
      refine At.thenN ?_
      refine At.block ?_
      skip
      refine At.loop (σ := Nat × Value) (fun s => s.1 ≤ (recB L).length) (fun s => [(5, vk), (8, s.2), (11, .int .i64 (s.1 : Int))]) (fun s => [brow 5 s.2 ((headB (L.length : Int) (sumOn 0 (recB L))) ++ zs 48 ++ (recB L).take s.1), brow 5 vk (recB L)]) (fun s => (recB L).length - s.1) (0, v19) (Nat.zero_le _) (Sub.cons rfl (Sub.cons rfl (Sub.cons rfl Sub.nil))) (by rw [List.take_zero, List.append_nil]) ?_
      intro s hs
      obtain ⟨k, vm⟩ := s
      dsimp only at hs ⊢
      refine At.seq ?_
      refine At.seq ?_
      refine At.region ?_
      refine At.val (Val.move rfl) rfl rfl rfl ?_
      refine At.val (Val.move rfl) rfl rfl rfl ?_
      refine At.val (Val.lenRow (i := 1) Tryd.underlying54 rfl rfl) rfl rfl rfl ?_
      refine At.val (Val.bin rfl rfl rfl) rfl rfl rfl ?_
      refine At.nil ?_
      refine At.thenN ?_
      refine At.cond rfl (fun h20 => ?_) (fun h20 => ?_)
      · skip
        try simp only [vN_T, vN_F, nmE_T, nmE_F, wI_T, wI_F, data_T, data_F, ino_T, ino_F, notT, notF, bneT, bneF, beqT, beqF, decT, decF] at h20
        have hk : k < (recB L).length := by omega
        refine At.skipC ?_
        refine At.thenN ?_
        refine At.seq ?_
        refine At.block ?_
        refine At.region ?_
        refine At.val (Val.move rfl) rfl rfl rfl ?_
        refine At.val (Val.move rfl) rfl rfl rfl ?_
        refine At.val (Val.move rfl) rfl rfl rfl ?_
        refine At.idxRowB (i := 1) rfl Tryd.underlying54 Tryd.sizeOf5 rfl rfl (by omega) (by omega) rfl rfl (fun q21 hq22 hl23 => ?_)
        refine At.val (Val.loadRowB (i := 1) Tryd.isAgg5 rfl rfl hq22) rfl rfl rfl ?_
        refine At.buildSl (fun a ha => by simp only [List.map_toArray, List.map_cons, List.map_nil, ha.eval (x := (.tmp 63)) rfl]; try rfl) (bs_54_1 _ ) rfl (fun b24 => ?_)
        refine At.appendB1 (i := 1) (j := 0) (by_ := 1) Tryd.underlying54 info_5 rfl rfl rfl rfl rfl rfl rfl rfl (by rw [List.length_append, List.length_append, headB_length, zs_length, List.length_take]; omega) (by rw [List.length_append, List.length_append, headB_length, zs_length, List.length_take]; omega) rfl (fun v25 => ?_)
        simp only [List.set_cons_zero, List.set_cons_succ]
        refine At.drop 0 ?_
        simp only [List.eraseIdx_cons_zero, List.eraseIdx_cons_succ]
        refine At.val (Val.assign rfl) rfl rfl rfl ?_
        refine At.nil ?_
        refine At.blkN ?_
        refine At.thenN ?_
        refine At.region ?_
        refine At.val (Val.move rfl) rfl rfl rfl ?_
        first | refine At.val (Val.addI rfl rfl (by omega) (by omega)) rfl rfl rfl ?_ | refine At.val (Val.bin rfl rfl rfl) rfl rfl rfl ?_
        refine At.val (Val.assign rfl) rfl rfl rfl ?_
        refine At.nil ?_
        refine At.thenN ?_
        exact At.again (k + 1, v25) (show k + 1 ≤ _ by omega) (by dsimp only; omega) (Sub.cons rfl (Sub.cons rfl (Sub.cons (congrArg (fun z => some (Value.int IntKind.i64 z)) (by omega)) Sub.nil))) (by rw [List.take_succ_of_get (by have := hq22; rwa [Int.toNat_natCast] at this), ← List.append_assoc])
      · skip
        try simp only [vN_T, vN_F, nmE_T, nmE_F, wI_T, wI_F, data_T, data_F, ino_T, ino_F, notT, notF, bneT, bneF, beqT, beqF, decT, decF] at h20
        obtain rfl : k = (recB L).length := by omega
        rw [List.take_length]
        refine At.exitC ?_
        refine At.thenX ?_
        refine At.thenX ?_
        refine At.blkX ?_
        refine At.thenN ?_
        refine At.seq ?_
        refine At.region ?_
        refine At.val (Val.move rfl) rfl rfl rfl ?_
        refine At.val (Val.assign rfl) rfl rfl rfl ?_
        refine At.val (Val.assign rfl) rfl rfl rfl ?_
        refine At.nil ?_
        refine At.thenN ?_
        refine At.retC ?_
        refine At.ret2 (.inl rfl) rfl rfl rfl rfl (fun w hw => ?_)
        exact ⟨_, by rw [packE_T hg], by rw [packB_T hg]; exact (hw.drop (List.singleton_sublist.2 (List.mem_of_getElem? (i := 0) rfl))).f0⟩

theorem numS_p (v : Value) (l : List UInt8) (a n : Nat) (w : World) (hv : RdB w v l) (hlen : l.length ≤ 140737488355328) (hn : a + n ≤ l.length) (h8 : n ≤ 8) :
    PureC Tryd.prog 129 [v, .int .i64 (a : Int), .int .i64 (n : Int)] (.int .u64 (num l a n : Nat)) w := by
  refine enter0 Tryd.func129 rfl Tryd.ntmps129 rfl ?_
  simp only [envOf]
  refine At.seq ?_
  refine At.region ?_
  refine At.val (Val.assign rfl) rfl rfl rfl ?_
  refine At.nil ?_
  refine At.thenN ?_
  refine At.seq ?_
  refine At.region ?_
  refine At.val (Val.assign rfl) rfl rfl rfl ?_
  refine At.nil ?_
  refine At.thenN ?_
  refine At.seq ?_
  refine At.seq ?_
  refine At.region ?_
  refine At.val (Val.move rfl) rfl rfl rfl ?_
  first | refine At.val (Val.subI rfl rfl (by omega) (by omega)) rfl rfl rfl ?_ | refine At.val (Val.bin rfl rfl rfl) rfl rfl rfl ?_
  refine At.val (Val.assign rfl) rfl rfl rfl ?_
  refine At.nil ?_
  refine At.thenN ?_
  refine At.block ?_
  skip
  refine At.loop (σ := Nat) (fun j' => j' ≤ n) (fun j' => [(0, v), (1, .int .i64 (a : Int)), (7, .int .u64 (num l (a + j') (n - j') : Nat)), (8, .int .i64 ((j' : Int) - 1))]) (fun j' => []) (fun j' => j') n (Nat.le_refl _) (Sub.cons rfl (Sub.cons rfl (Sub.cons (congrArg (fun z => some (Value.int IntKind.u64 z)) (by rw [Nat.sub_self, num_zero]; rfl)) (Sub.cons rfl Sub.nil)))) (List.Perm.refl _) ?_
  intro j' hs
  refine At.seq ?_
  refine At.seq ?_
  refine At.region ?_
  refine At.val (Val.move rfl) rfl rfl rfl ?_
  refine At.val (Val.bin rfl rfl rfl) rfl rfl rfl ?_
  refine At.nil ?_
  refine At.thenN ?_
  refine At.cond rfl (fun h1 => ?_) (fun h1 => ?_)
  · skip
    try simp only [vN_T, vN_F, nmE_T, nmE_F, wI_T, wI_F, data_T, data_F, ino_T, ino_F, notT, notF, bneT, bneF, beqT, beqF, decT, decF] at h1
    obtain ⟨j, rfl⟩ : ∃ j, j' = j + 1 := ⟨j' - 1, by omega⟩
    obtain ⟨u, hu⟩ : ∃ u, l[a + j]? = some u := ⟨_, List.getElem?_eq_getElem (by omega)⟩
    have hnum : num l (a + (j + 1)) (n - (j + 1)) * 256 + u.toNat = num l (a + j) (n - j) := by rw [show n - j = (n - (j + 1)) + 1 by omega, num_cons hu]; rfl
    have hlt : num l (a + j) (n - j) < 18446744073709551616 := Nat.lt_of_lt_of_le (num_lt (l := l) (a + j) (n - j)) (by rw [show (18446744073709551616 : Nat) = 256 ^ 8 from rfl]; exact Nat.pow_le_pow_right (by decide) (by omega))
    refine At.skipC ?_
    refine At.thenN ?_
    refine At.seq ?_
    refine At.block ?_
    refine At.region ?_
    refine At.val (Val.move rfl) rfl rfl rfl ?_
    refine At.val (Val.bin rfl rfl rfl) rfl rfl rfl ?_
    rw [wrap_u64 (n := ((num l (a + (j + 1)) (n - (j + 1)) : Nat) : Int) * 256) (by omega) (by omega)]
    refine At.val (Val.move rfl) rfl rfl rfl ?_
    refine At.val (Val.move rfl) rfl rfl rfl ?_
    refine At.val (Val.move rfl) rfl rfl rfl ?_
    first | refine At.val (Val.addI rfl rfl (by omega) (by omega)) rfl rfl rfl ?_ | refine At.val (Val.bin rfl rfl rfl) rfl rfl rfl ?_
    refine At.idxB hv Tryd.underlying54 Tryd.sizeOf5 rfl rfl (by omega) (by omega) rfl rfl (fun b2 o3 q4 hq5 hl6 hc7 => ?_)
    refine At.val (Val.loadOld Tryd.isAgg5 rfl hc7 (fun h => h)) rfl rfl rfl ?_
    refine At.val (Val.conv Tryd.underlying5 Tryd.underlying40 rfl) rfl rfl rfl ?_
    rw [wrap_u64 (n := (q4.toNat : Int)) (by omega) (by have := q4.toNat_lt; omega), show q4 = u from by have h1 := hq5; rw [show ((a : Int) + (((j + 1 : Nat) : Int) - 1)).toNat = a + j by omega, hu] at h1; exact (Option.some.inj h1).symm]
    refine At.val (Val.bin rfl rfl rfl) rfl rfl rfl ?_
    rw [show IntKind.u64.wrap (((num l (a + (j + 1)) (n - (j + 1)) : Nat) : Int) * 256 + (u.toNat : Int)) = ((num l (a + j) (n - j) : Nat) : Int) from by rw [wrap_u64 (by omega) (by omega)]; omega]
    refine At.val (Val.assign rfl) rfl rfl rfl ?_
    refine At.nil ?_
    refine At.blkN ?_
    refine At.thenN ?_
    refine At.region ?_
    refine At.val (Val.move rfl) rfl rfl rfl ?_
    first | refine At.val (Val.subI rfl rfl (by omega) (by omega)) rfl rfl rfl ?_ | refine At.val (Val.bin rfl rfl rfl) rfl rfl rfl ?_
    refine At.val (Val.assign rfl) rfl rfl rfl ?_
    refine At.nil ?_
    refine At.thenN ?_
    exact At.again j (by omega) (by omega) (Sub.cons rfl (Sub.cons rfl (Sub.cons rfl (Sub.cons (congrArg (fun z => some (Value.int IntKind.i64 z)) (by omega)) Sub.nil)))) (List.Perm.refl _)
  · skip
    try simp only [vN_T, vN_F, nmE_T, nmE_F, wI_T, wI_F, data_T, data_F, ino_T, ino_F, notT, notF, bneT, bneF, beqT, beqF, decT, decF] at h1
    have hj0 : j' = 0 := by omega
    subst hj0
    refine At.exitC ?_
    refine At.thenX ?_
    refine At.thenX ?_
    refine At.blkX ?_
    refine At.thenN ?_
    refine At.seq ?_
    refine At.region ?_
    refine At.val (Val.move rfl) rfl rfl rfl ?_
    refine At.val (Val.assign rfl) rfl rfl rfl ?_
    refine At.nil ?_
    refine At.thenN ?_
    refine At.retC ?_
    refine At.ret1 (.inl rfl) rfl rfl rfl (fun w hw => ?_)
    exact ⟨rfl, hw.mod⟩

theorem fits_p (v : Value) (l : List UInt8) (a n : Int) (w : World) (hv : RdB w v l) (hlen : l.length ≤ 140737488355328) (hn : 0 ≤ n ∧ n ≤ 140737488355328) :
    PureC Tryd.prog 128 [v, .int .i64 a, .int .i64 n] (.bool (decide (0 ≤ a ∧ n ≤ l.length ∧ a ≤ l.length - n))) w := by
  refine enter0 Tryd.func128 rfl Tryd.ntmps128 rfl ?_
  simp only [envOf]
  refine At.seq ?_
  refine At.region ?_
  refine At.val (Val.assign rfl) rfl rfl rfl ?_
  refine At.nil ?_
  refine At.thenN ?_
  refine At.seq ?_
  refine At.region ?_
  refine At.val (Val.move rfl) rfl rfl rfl ?_
  refine At.val (Val.bin rfl rfl rfl) rfl rfl rfl ?_
  refine At.val (Val.move rfl) rfl rfl rfl ?_
  refine At.split (t := 9) rfl (fun h1 => ?_) (fun h1 => ?_)
  · skip
    try simp only [vN_T, vN_F, nmE_T, nmE_F, wI_T, wI_F, data_T, data_F, ino_T, ino_F, notT, notF, bneT, bneF, beqT, beqF, decT, decF] at h1
    refine At.yes rfl rfl ?_
    refine At.val (Val.move rfl) rfl rfl rfl ?_
    refine At.yes rfl rfl ?_
    refine At.val (Val.lenRd hv Tryd.underlying54 rfl) rfl rfl rfl ?_
    refine At.yes rfl rfl ?_
    refine At.val (Val.move rfl) rfl rfl rfl ?_
    refine At.yes rfl rfl ?_
    refine At.val (Val.bin rfl rfl rfl) rfl rfl rfl ?_
    refine At.val (Val.pickT rfl rfl) rfl rfl rfl ?_
    refine At.val (Val.move rfl) rfl rfl rfl ?_
    refine At.split (t := 15) rfl (fun h2 => ?_) (fun h2 => ?_)
    · skip
      try simp only [vN_T, vN_F, nmE_T, nmE_F, wI_T, wI_F, data_T, data_F, ino_T, ino_F, notT, notF, bneT, bneF, beqT, beqF, decT, decF] at h2
      refine At.yes rfl rfl ?_
      refine At.val (Val.move rfl) rfl rfl rfl ?_
      refine At.yes rfl rfl ?_
      refine At.val (Val.move rfl) rfl rfl rfl ?_
      refine At.yes rfl rfl ?_
      refine At.val (Val.lenRd hv Tryd.underlying54 rfl) rfl rfl rfl ?_
      refine At.yes rfl rfl ?_
      refine At.val (Val.move rfl) rfl rfl rfl ?_
      refine At.yes rfl rfl ?_
      first | refine At.val (Val.subI rfl rfl (by omega) (by omega)) rfl rfl rfl ?_ | refine At.val (Val.bin rfl rfl rfl) rfl rfl rfl ?_
      refine At.yes rfl rfl ?_
      refine At.val (Val.bin rfl rfl rfl) rfl rfl rfl ?_
      refine At.val (Val.pickT rfl rfl) rfl rfl rfl ?_
      refine At.val (Val.assign rfl) rfl rfl rfl ?_
      refine At.nil ?_
      refine At.thenN ?_
      refine At.retC ?_
      refine At.ret1 (.inl rfl) rfl rfl rfl (fun w hw => ?_)
      exact ⟨retB (by first | exact (decide_eq_true (by omega)).symm | exact (decide_eq_false (by omega)).symm | (apply Bool.eq_iff_iff.2; simp only [decide_eq_true_eq]; omega)), hw.mod⟩
    · skip
      try simp only [vN_T, vN_F, nmE_T, nmE_F, wI_T, wI_F, data_T, data_F, ino_T, ino_F, notT, notF, bneT, bneF, beqT, beqF, decT, decF] at h2
      refine At.no rfl rfl rfl rfl ?_
      refine At.no rfl rfl rfl rfl ?_
      refine At.no rfl rfl rfl rfl ?_
      refine At.no rfl rfl rfl rfl ?_
      refine At.no rfl rfl rfl rfl ?_
      refine At.no rfl rfl rfl rfl ?_
      refine At.val (Val.pickF rfl rfl) rfl rfl rfl ?_
      refine At.val (Val.assign rfl) rfl rfl rfl ?_
      refine At.nil ?_
      refine At.thenN ?_
      refine At.retC ?_
      refine At.ret1 (.inl rfl) rfl rfl rfl (fun w hw => ?_)
      exact ⟨retB (by first | exact (decide_eq_true (by omega)).symm | exact (decide_eq_false (by omega)).symm | (apply Bool.eq_iff_iff.2; simp only [decide_eq_true_eq]; omega)), hw.mod⟩
  · skip
    try simp only [vN_T, vN_F, nmE_T, nmE_F, wI_T, wI_F, data_T, data_F, ino_T, ino_F, notT, notF, bneT, bneF, beqT, beqF, decT, decF] at h1
    refine At.no rfl rfl rfl rfl ?_
    refine At.no rfl rfl rfl rfl ?_
    refine At.no rfl rfl rfl rfl ?_
    refine At.no rfl rfl rfl rfl ?_
    refine At.val (Val.pickF rfl rfl) rfl rfl rfl ?_
    refine At.val (Val.move rfl) rfl rfl rfl ?_
    refine At.no rfl rfl rfl rfl ?_
    refine At.no rfl rfl rfl rfl ?_
    refine At.no rfl rfl rfl rfl ?_
    refine At.no rfl rfl rfl rfl ?_
    refine At.no rfl rfl rfl rfl ?_
    refine At.no rfl rfl rfl rfl ?_
    refine At.val (Val.pickF rfl rfl) rfl rfl rfl ?_
    refine At.val (Val.assign rfl) rfl rfl rfl ?_
    refine At.nil ?_
    refine At.thenN ?_
    refine At.retC ?_
    refine At.ret1 (.inl rfl) rfl rfl rfl (fun w hw => ?_)
    exact ⟨retB (by first | exact (decide_eq_true (by omega)).symm | exact (decide_eq_false (by omega)).symm | (apply Bool.eq_iff_iff.2; simp only [decide_eq_true_eq]; omega)), hw.mod⟩

theorem wordS_p (v : Value) (l : List UInt8) (a : Nat) (w : World) (hv : RdB w v l) (hlen : l.length ≤ 140737488355328) (hn : a + 8 ≤ l.length) :
    PureC Tryd.prog 119 [v, .int .i64 (a : Int)] (.tuple #[.int .u64 (num l a 8 : Nat), .int .i64 0]) w := by
  refine enter0 Tryd.func119 rfl Tryd.ntmps119 rfl ?_
  simp only [envOf]
  refine At.seq ?_
  refine At.region ?_
  refine At.val (Val.assign rfl) rfl rfl rfl ?_
  refine At.val (Val.assign rfl) rfl rfl rfl ?_
  refine At.nil ?_
  refine At.thenN ?_
  refine At.seq ?_
  refine At.seq ?_
  refine At.region ?_
  refine At.val (Val.move rfl) rfl rfl rfl ?_
  refine At.val (Val.move rfl) rfl rfl rfl ?_
  refine At.callP (fun w hw => fits_p v l a 8 w (hv.mod hw.mod) hlen (by omega)) Tryd.call128 rfl rfl ?_
  refine At.val (Val.not rfl) rfl rfl rfl ?_
  refine At.nil ?_
  refine At.thenN ?_
  refine At.cond rfl (fun h1 => ?_) (fun h1 => ?_)
  · skip
    try simp only [vN_T, vN_F, nmE_T, nmE_F, wI_T, wI_F, data_T, data_F, ino_T, ino_F, notT, notF, bneT, bneF, beqT, beqF, decT, decF] at h1
    exact absurd h1 (by simp; omega)
  · skip
    try simp only [vN_T, vN_F, nmE_T, nmE_F, wI_T, wI_F, data_T, data_F, ino_T, ino_F, notT, notF, bneT, bneF, beqT, beqF, decT, decF] at h1
    refine At.skipC ?_
    refine At.thenN ?_
    refine At.seq ?_
    refine At.region ?_
    refine At.val (Val.move rfl) rfl rfl rfl ?_
    refine At.val (Val.move rfl) rfl rfl rfl ?_
    refine At.callP (fun w hw => numS_p v l a 8 w (hv.mod hw.mod) hlen hn (by decide)) Tryd.call129 rfl rfl ?_
    refine At.val (Val.assign rfl) rfl rfl rfl ?_
    refine At.val (Val.assign rfl) rfl rfl rfl ?_
    refine At.nil ?_
    refine At.thenN ?_
    refine At.retC ?_
    refine At.ret2 (.inl rfl) rfl rfl rfl rfl (fun w hw => ?_)
    exact ⟨rfl, hw.mod⟩

end Go.Proofs.YtoiebgnmknbkjaaDoor
