/- What an entry's line says. -/
import Derived.Test.YtoiebgnmknbkjaaDoorB20
import Derived.Test.YtoiebgnmknbkjaaDoorB8
set_option linter.unusedVariables false
set_option linter.unusedSimpArgs false
namespace Go.Proofs.YtoiebgnmknbkjaaDoor
open Go Go.Wk

theorem num_one {l : List UInt8} {a : Nat} {u : UInt8} (h : l[a]? = some u) : num l a 1 = u.toNat := by
  have := num_succ (k := 0) (l := l) (at_ := a) (c := u) h
  rw [num_zero] at this
  simpa using this

theorem openEnt_p (l : List UInt8) (w : World) (ht : Tab w) (hl : l.length = 64) :
    PureC Tryd.prog 55 [.agg (l.map bv).toArray] (openEntV l) w := by
  refine enterD0 Tryd.func55 rfl Tryd.ntmps55 rfl ?_
  have n0 := num_lt (l := l) 0 1
  have n1 := num_lt (l := l) 1 1
  have n8 := num_lt (l := l) 8 8
  have n16 := num_lt (l := l) 16 4
  have n20 := num_lt (l := l) 20 4
  have n24 := num_lt (l := l) 24 4
  have n28 := num_lt (l := l) 28 4
  simp only [envOf]
  refine At.seq ?_
  refine At.region ?_
  refine At.box rfl rfl rfl (fun b1 => ?_)
  refine At.alloc Tryd.zeroValue92 rfl rfl (fun b2 => ?_)
  refine At.alloc Tryd.zeroValue26 rfl rfl (fun b3 => ?_)
  refine At.nil ?_
  refine At.thenN ?_
  refine At.seq ?_
  refine At.region ?_
  refine At.defer rfl ?_
  refine At.nil ?_
  refine At.thenN ?_
  refine At.seq ?_
  refine At.region ?_
  refine At.val (Val.loadAll (i := 2) Tryd.isAgg30 Tryd.sizeOf30 rfl rfl (by rw [List.length_map]; exact hl)) rfl rfl rfl ?_
  refine At.callP (fun w hw => whole_p _ w hl (ht.mod hw.mod)) Tryd.call85 rfl rfl ?_
  refine At.split (t := 8) rfl (fun h4 => ?_) (fun h4 => ?_)
  · skip
    try simp only [vN_T, vN_F, nmE_T, nmE_F, wI_T, wI_F, data_T, data_F, ino_T, ino_F, notT, notF, bneT, bneF, beqT, beqF, decT, decF] at h4
    have hwhole := h4
    refine At.callP (fun w hw => must_T _ w) Tryd.call84 rfl rfl ?_
    refine At.nil ?_
    refine At.thenN ?_
    refine At.seq ?_
    refine At.region ?_
    refine At.val (Val.cutArr 0 64 0 l.length 64 Tryd.underlying30 Tryd.sizeOf5 rfl rfl rfl (by decide) (by decide) rfl (by omega) rfl) rfl rfl rfl ?_
    refine At.val (Val.build (fun a ha => by simp only [List.map_toArray, List.map_cons, List.map_nil, ha.eval (x := (.tmp 10)) rfl] <;> rfl) (bld_139_0 _ _ _ )) rfl rfl rfl ?_
    refine At.alloc Tryd.zeroValue139 rfl rfl (fun b5 => ?_)
    refine At.storeAll (i := 0) Tryd.sizeOf139 rfl rfl rfl (by simp [Value.oneCell']) rfl rfl ?_
    simp only [List.set_cons_zero, List.set_cons_succ]
    refine At.nil ?_
    rw [show ([Value.slice (some ⟨b1, 0, none⟩) l.length 64, Value.int IntKind.i64 0] : List Value) = eyeC b1 0 l.length 64 0 from rfl]
    refine At.thenN ?_
    refine At.seq ?_
    refine At.region ?_
    refine At.call1 0 rfl (fun w hw hr => eyeNumber_p _ b1 0 64 0 1 l w hr (hw.blk (i := 3) rfl).bytes' (hw.apart 3 0 rfl rfl (by decide)) (by omega) (by omega) (by omega) (by decide)) Tryd.call108 rfl rfl ?_
    simp only [List.set_cons_zero, List.set_cons_succ]
    first | refine At.val (Val.toI Tryd.underlying40 Tryd.underlying3 rfl (by omega) (by omega)) rfl rfl rfl ?_ | refine At.val (Val.conv Tryd.underlying40 Tryd.underlying3 rfl) rfl rfl rfl ?_
    refine At.val (Val.field 0 rfl fo_92_0 rfl) rfl rfl rfl ?_
    refine At.store (i := 2) Tryd.sizeOf3 rfl rfl rfl rfl (by first | decide | simp) ?_
    simp only [List.set_cons_zero, List.set_cons_succ]
    refine At.nil ?_
    refine At.thenN ?_
    refine At.seq ?_
    refine At.region ?_
    refine At.call1 0 rfl (fun w hw hr => eyeNumber_p _ b1 0 64 1 1 l w hr (hw.blk (i := 3) rfl).bytes' (hw.apart 3 0 rfl rfl (by decide)) (by omega) (by omega) (by omega) (by decide)) Tryd.call108 rfl rfl ?_
    simp only [List.set_cons_zero, List.set_cons_succ]
    first | refine At.val (Val.toI Tryd.underlying40 Tryd.underlying3 rfl (by omega) (by omega)) rfl rfl rfl ?_ | refine At.val (Val.conv Tryd.underlying40 Tryd.underlying3 rfl) rfl rfl rfl ?_
    refine At.val (Val.assign rfl) rfl rfl rfl ?_
    refine At.nil ?_
    refine At.thenN ?_
    refine At.seq ?_
    refine At.region ?_
    refine At.val (Val.move rfl) rfl rfl rfl ?_
    refine At.val (Val.bin rfl rfl rfl) rfl rfl rfl ?_
    refine At.split (t := 18) rfl (fun h6 => ?_) (fun h6 => ?_)
    · skip
      try simp only [vN_T, vN_F, nmE_T, nmE_F, wI_T, wI_F, data_T, data_F, ino_T, ino_F, notT, notF, bneT, bneF, beqT, beqF, decT, decF] at h6
      have hn28 : num l 1 1 ≤ 28 := by omega
      have hline := entL_iff hl hn28
      have hNs := entN_size hl hn28
      refine At.callP (fun w hw => must_T _ w) Tryd.call84 rfl rfl ?_
      refine At.nil ?_
      refine At.thenN ?_
      refine At.seq ?_
      refine At.region ?_
      by_cases hq : allZero ((l.drop 2).take 6)
      · skip
        have hz6 := hq
        refine At.call1 0 rfl (fun w hw hr => eyeZeros_T _ b1 0 64 2 6 l 34 w hr (hw.blk (i := 3) rfl).bytes' (hw.apart 3 0 rfl rfl (by decide)) (by omega) (by omega) (by omega) hq) Tryd.call88 rfl rfl ?_
        simp only [List.set_cons_zero, List.set_cons_succ]
        refine At.nil ?_
        refine At.thenN ?_
        refine At.seq ?_
        refine At.region ?_
        refine At.call1 0 rfl (fun w hw hr => eyeNumber_p _ b1 0 64 8 8 l w hr (hw.blk (i := 3) rfl).bytes' (hw.apart 3 0 rfl rfl (by decide)) (by omega) (by omega) (by omega) (by decide)) Tryd.call108 rfl rfl ?_
        simp only [List.set_cons_zero, List.set_cons_succ]
        refine At.val (Val.field 1 rfl fo_92_1 rfl) rfl rfl rfl ?_
        refine At.store (i := 2) Tryd.sizeOf40 rfl rfl rfl rfl (by first | decide | simp) ?_
        simp only [List.set_cons_zero, List.set_cons_succ]
        refine At.nil ?_
        refine At.thenN ?_
        refine At.seq ?_
        refine At.region ?_
        refine At.call1 0 rfl (fun w hw hr => eyeHalf_p _ b1 0 64 16 l w hr (hw.blk (i := 3) rfl).bytes' (hw.apart 3 0 rfl rfl (by decide)) (by omega) (by omega) (by omega)) Tryd.call87 rfl rfl ?_
        simp only [List.set_cons_zero, List.set_cons_succ]
        refine At.val (Val.assign rfl) rfl rfl rfl ?_
        refine At.nil ?_
        refine At.thenN ?_
        refine At.join (σ := Unit) (fun _ => True) (fun _ => [(1, .pointer (some ⟨b1, 0, none⟩)), (2, .pointer (some ⟨b2, 0, none⟩)), (3, .pointer (some ⟨b3, 0, none⟩)), (4, .pointer (some ⟨b5, 0, none⟩)), (5, .int .i64 (num l 1 1 : Nat))]) (fun _ => [blk b5 139 (eyeC b1 0 l.length 64 (16 + 4)), blk b3 26 ([.int .i64 0]), blk b2 92 ([.int .i64 (num l 0 1 : Nat), .int .u64 (num l 8 8 : Nat), .int .i64 (entO l), .int .i64 0, .int .i64 0, .int .i64 0, .int .i64 (entI l), .string ⟨#[]⟩]), blk b1 30 (l.map bv)]) ?_ ?_
        · skip
          refine At.seq ?_
          refine At.region ?_
          refine At.val (Val.field 0 rfl fo_92_0 rfl) rfl rfl rfl ?_
          refine At.val (Val.load (i := 2) Tryd.isAgg3 rfl rfl rfl) rfl rfl rfl ?_
          refine At.val (Val.bin rfl rfl rfl) rfl rfl rfl ?_
          refine At.nil ?_
          refine At.thenN ?_
          refine At.cond rfl (fun h7 => ?_) (fun h7 => ?_)
          · skip
            try simp only [vN_T, vN_F, nmE_T, nmE_F, wI_T, wI_F, data_T, data_F, ino_T, ino_F, notT, notF, bneT, bneF, beqT, beqF, decT, decF] at h7
            refine At.region ?_
            refine At.val (Val.move rfl) rfl rfl rfl ?_
            refine At.val (Val.field 6 rfl fo_92_6 rfl) rfl rfl rfl ?_
            refine At.store (i := 2) Tryd.sizeOf3 rfl rfl rfl rfl (by first | decide | simp) ?_
            simp only [List.set_cons_zero, List.set_cons_succ]
            refine At.nil ?_
            refine At.thenN ?_
            exact At.meets () trivial (Sub.cons rfl (Sub.cons rfl (Sub.cons rfl (Sub.cons rfl (Sub.cons rfl Sub.nil))))) (by first | (rw [entO_3 (l := l) (by omega), entI_3 (l := l) (by omega)]; exact List.Perm.refl _) | (rw [entO_n (l := l) (by omega), entI_n (l := l) (by omega)]; exact List.Perm.refl _) | (rw [entO_3 (l := l) (by omega), entI_3 (l := l) (by omega)]) | (rw [entO_n (l := l) (by omega), entI_n (l := l) (by omega)]))
          · skip
            try simp only [vN_T, vN_F, nmE_T, nmE_F, wI_T, wI_F, data_T, data_F, ino_T, ino_F, notT, notF, bneT, bneF, beqT, beqF, decT, decF] at h7
            refine At.region ?_
            refine At.val (Val.move rfl) rfl rfl rfl ?_
            refine At.val (Val.field 2 rfl fo_92_2 rfl) rfl rfl rfl ?_
            refine At.store (i := 2) Tryd.sizeOf3 rfl rfl rfl rfl (by first | decide | simp) ?_
            simp only [List.set_cons_zero, List.set_cons_succ]
            refine At.nil ?_
            refine At.thenN ?_
            exact At.meets () trivial (Sub.cons rfl (Sub.cons rfl (Sub.cons rfl (Sub.cons rfl (Sub.cons rfl Sub.nil))))) (by first | (rw [entO_3 (l := l) (by omega), entI_3 (l := l) (by omega)]; exact List.Perm.refl _) | (rw [entO_n (l := l) (by omega), entI_n (l := l) (by omega)]; exact List.Perm.refl _) | (rw [entO_3 (l := l) (by omega), entI_3 (l := l) (by omega)]) | (rw [entO_n (l := l) (by omega), entI_n (l := l) (by omega)]))
        · skip
          intro _ hs
          refine At.seq ?_
          refine At.region ?_
          refine At.call1 0 rfl (fun w hw hr => eyeHalf_p _ b1 0 64 20 l w hr (hw.blk (i := 3) rfl).bytes' (hw.apart 3 0 rfl rfl (by decide)) (by omega) (by omega) (by omega)) Tryd.call87 rfl rfl ?_
          simp only [List.set_cons_zero, List.set_cons_succ]
          refine At.call1 0 rfl (fun w hw hr => eyeHalf_p _ b1 0 64 24 l w hr (hw.blk (i := 3) rfl).bytes' (hw.apart 3 0 rfl rfl (by decide)) (by omega) (by omega) (by omega)) Tryd.call87 rfl rfl ?_
          simp only [List.set_cons_zero, List.set_cons_succ]
          refine At.call1 0 rfl (fun w hw hr => eyeHalf_p _ b1 0 64 28 l w hr (hw.blk (i := 3) rfl).bytes' (hw.apart 3 0 rfl rfl (by decide)) (by omega) (by omega) (by omega)) Tryd.call87 rfl rfl ?_
          simp only [List.set_cons_zero, List.set_cons_succ]
          refine At.val (Val.field 3 rfl fo_92_3 rfl) rfl rfl rfl ?_
          refine At.store (i := 2) Tryd.sizeOf3 rfl rfl rfl rfl (by first | decide | simp) ?_
          simp only [List.set_cons_zero, List.set_cons_succ]
          refine At.val (Val.field 4 rfl fo_92_4 rfl) rfl rfl rfl ?_
          refine At.store (i := 2) Tryd.sizeOf3 rfl rfl rfl rfl (by first | decide | simp) ?_
          simp only [List.set_cons_zero, List.set_cons_succ]
          refine At.val (Val.field 5 rfl fo_92_5 rfl) rfl rfl rfl ?_
          refine At.store (i := 2) Tryd.sizeOf3 rfl rfl rfl rfl (by first | decide | simp) ?_
          simp only [List.set_cons_zero, List.set_cons_succ]
          refine At.nil ?_
          refine At.thenN ?_
          refine At.seq ?_
          refine At.region ?_
          refine At.val (Val.field 1 rfl fo_139_1 rfl) rfl rfl rfl ?_
          refine At.val (Val.load (i := 0) Tryd.isAgg3 rfl rfl rfl) rfl rfl rfl ?_
          refine At.val (Val.field 1 rfl fo_139_1 rfl) rfl rfl rfl ?_
          refine At.val (Val.load (i := 0) Tryd.isAgg3 rfl rfl rfl) rfl rfl rfl ?_
          refine At.val (Val.move rfl) rfl rfl rfl ?_
          first | refine At.val (Val.addI rfl rfl (by omega) (by omega)) rfl rfl rfl ?_ | refine At.val (Val.bin rfl rfl rfl) rfl rfl rfl ?_
          refine At.val (Val.cutArr 32 (32 + num l 1 1) 32 (num l 1 1) 32 Tryd.underlying30 Tryd.sizeOf5 rfl ⟨_, _, rfl, by omega, by omega⟩ ⟨_, _, rfl, by omega, by omega⟩ (by omega) (by omega) rfl (by omega) rfl) rfl rfl rfl ?_
          refine At.val (Val.strOf (l := (l.drop 32).take (num l 1 1)) Tryd.underlying54 Tryd.underlying5 Tryd.underlying9 rfl (by rw [List.length_take, List.length_drop]; omega) (fun w hw => by have := cut_bytes (c := 64) (at_ := 32) (n := num l 1 1) ((hw.blk (i := 3) rfl).bytes') (by omega) (by omega); simpa using this)) rfl rfl rfl ?_
          rw [show (ByteArray.mk ((l.drop 32).take (num l 1 1)).toArray) = entN l from rfl]
          refine At.val (Val.field 7 rfl fo_92_7 rfl) rfl rfl rfl ?_
          refine At.store (i := 2) Tryd.sizeOf9 rfl rfl rfl rfl (by first | decide | simp) ?_
          simp only [List.set_cons_zero, List.set_cons_succ]
          refine At.nil ?_
          refine At.thenN ?_
          refine At.seq ?_
          refine At.region ?_
          refine At.val (Val.field 1 rfl fo_139_1 rfl) rfl rfl rfl ?_
          refine At.val (Val.load (i := 0) Tryd.isAgg3 rfl rfl rfl) rfl rfl rfl ?_
          refine At.val (Val.move rfl) rfl rfl rfl ?_
          first | refine At.val (Val.addI rfl rfl (by omega) (by omega)) rfl rfl rfl ?_ | refine At.val (Val.bin rfl rfl rfl) rfl rfl rfl ?_
          refine At.val (Val.field 1 rfl fo_139_1 rfl) rfl rfl rfl ?_
          refine At.store (i := 0) Tryd.sizeOf3 rfl rfl rfl rfl (by first | decide | simp) ?_
          simp only [List.set_cons_zero, List.set_cons_succ]
          refine At.nil ?_
          rw [show ([Value.slice (some ⟨b1, 0, none⟩) l.length 64, Value.int IntKind.i64 (((28 + 4 : Nat) : Int) + ((num l 1 1 : Nat) : Int))] : List Value) = eyeC b1 0 l.length 64 (32 + num l 1 1) from by simp]
          refine At.thenN ?_
          refine At.seq ?_
          refine At.region ?_
          refine At.val (Val.move rfl) rfl rfl rfl ?_
          refine At.val (Val.subI rfl rfl (by omega) (by omega)) rfl rfl rfl ?_
          rw [show (28 : Int) - ((num l 1 1 : Nat) : Int) = ((28 - num l 1 1 : Nat) : Int) from by omega]
          by_cases hq : allZero ((l.drop (32 + num l 1 1)).take (28 - num l 1 1))
          · skip
            have hzz := hq
            refine At.call1 0 rfl (fun w hw hr => eyeZeros_T _ b1 0 64 (32 + num l 1 1) (28 - num l 1 1) l 34 w hr (hw.blk (i := 3) rfl).bytes' (hw.apart 3 0 rfl rfl (by decide)) (by omega) (by omega) (by omega) hq) Tryd.call88 rfl rfl ?_
            simp only [List.set_cons_zero, List.set_cons_succ]
            refine At.nil ?_
            refine At.thenN ?_
            refine At.seq ?_
            refine At.region ?_
            refine At.val (Val.loadAll (i := 2) Tryd.isAgg92 Tryd.sizeOf92 rfl rfl rfl) rfl rfl rfl ?_
            refine At.callP (fun w hw => goodEnt_p _ _ _ _ _ _ _ (entN l) w (by omega) (by omega)) Tryd.call110 rfl rfl ?_
            refine At.split (t := 55) rfl (fun h8 => ?_) (fun h8 => ?_)
            · skip
              try simp only [vN_T, vN_F, nmE_T, nmE_F, wI_T, wI_F, data_T, data_F, ino_T, ino_F, notT, notF, bneT, bneF, beqT, beqF, decT, decF] at h8
              have hg : GoodE (num l 0 1 : Nat) (num l 8 8 : Nat) (entO l) (num l 20 4 : Nat) (num l 24 4 : Nat) (num l 28 4 : Nat) (entI l) (entN l) := by simpa using h8
              refine At.callP (fun w hw => must_T _ w) Tryd.call84 rfl rfl ?_
              refine At.nil ?_
              refine At.thenN ?_
              refine At.seq ?_
              refine At.region ?_
              refine At.val (Val.loadAll (i := 2) Tryd.isAgg92 Tryd.sizeOf92 rfl rfl rfl) rfl rfl rfl ?_
              refine At.storeAll (i := 2) Tryd.sizeOf92 rfl rfl rfl (by simp [Value.oneCell']) rfl rfl ?_
              simp only [List.set_cons_zero, List.set_cons_succ]
              refine At.store (i := 1) Tryd.sizeOf26 rfl rfl rfl rfl (by first | decide | simp) ?_
              simp only [List.set_cons_zero, List.set_cons_succ]
              refine At.nil ?_
              refine At.thenN ?_
              refine At.retC ?_
              refine At.leaveN (.inl rfl) rfl Tryd.call112 (fun w hw => caughtEntry_idle _ _ w) rfl (ResOf.all (i := 2) Tryd.isAgg92 Tryd.sizeOf92 rfl rfl rfl) (ResOf.one (i := 1) Tryd.isAgg26 rfl rfl rfl) (fun w hw => ?_)
              exact ⟨by rw [openEnt_yes ⟨hn28, hg, hline.2 ⟨hwhole, hz6, hzz⟩⟩]; rfl, hw.mod⟩
            · skip
              try simp only [vN_T, vN_F, nmE_T, nmE_F, wI_T, wI_F, data_T, data_F, ino_T, ino_F, notT, notF, bneT, bneF, beqT, beqF, decT, decF] at h8
              have hno : ¬ OkE l := fun h => absurd h.2.1 (by simpa using h8)
              refine At.callT0 (fun w hw => must_F _ w) Tryd.call84 rfl ?_
              refine At.thenE ?_
              refine At.leaveP rfl Tryd.call112 ((erase_perm _ 2 _ rfl).trans (List.Perm.cons _ (erase_perm _ 1 _ rfl))) (fun w hw => caughtEntry_pan _ _ _ _ _ w (hw.blk (i := 0) rfl) rfl (hw.blk (i := 1) rfl) hw.ne01) rfl (ResOf.all (i := 0) Tryd.isAgg92 Tryd.sizeOf92 rfl rfl rfl) (ResOf.one (i := 1) Tryd.isAgg26 rfl rfl rfl) (fun w hw => ?_)
              exact ⟨by rw [openEnt_no hno]; rfl, hw.mod⟩
          · skip
            have hno : ¬ OkE l := fun h => hq (hline.1 h.2.2).2.2
            refine At.callT1 0 rfl (fun w hw hr => eyeZeros_F _ b1 0 64 (32 + num l 1 1) (28 - num l 1 1) l 34 w hr (hw.blk (i := 3) rfl).bytes' (hw.apart 3 0 rfl rfl (by decide)) (by omega) (by omega) (by omega) hq) Tryd.call88 rfl ?_
            simp only [List.eraseIdx_cons_zero, List.eraseIdx_cons_succ]
            refine At.thenE ?_
            refine At.leaveP rfl Tryd.call112 ((erase_perm _ 1 _ rfl).trans (List.Perm.cons _ (erase_perm _ 0 _ rfl))) (fun w hw => caughtEntry_pan _ _ _ _ _ w (hw.blk (i := 0) rfl) rfl (hw.blk (i := 1) rfl) hw.ne01) rfl (ResOf.all (i := 0) Tryd.isAgg92 Tryd.sizeOf92 rfl rfl rfl) (ResOf.one (i := 1) Tryd.isAgg26 rfl rfl rfl) (fun w hw => ?_)
            exact ⟨by rw [openEnt_no hno]; rfl, hw.mod⟩
      · skip
        have hno : ¬ OkE l := fun h => hq (hline.1 h.2.2).2.1
        refine At.callT1 0 rfl (fun w hw hr => eyeZeros_F _ b1 0 64 2 6 l 34 w hr (hw.blk (i := 3) rfl).bytes' (hw.apart 3 0 rfl rfl (by decide)) (by omega) (by omega) (by omega) hq) Tryd.call88 rfl ?_
        simp only [List.eraseIdx_cons_zero, List.eraseIdx_cons_succ]
        refine At.thenE ?_
        refine At.leaveP rfl Tryd.call112 ((erase_perm _ 1 _ rfl).trans (List.Perm.cons _ (erase_perm _ 0 _ rfl))) (fun w hw => caughtEntry_pan _ _ _ _ _ w (hw.blk (i := 0) rfl) rfl (hw.blk (i := 1) rfl) hw.ne01) rfl (ResOf.all (i := 0) Tryd.isAgg92 Tryd.sizeOf92 rfl rfl rfl) (ResOf.one (i := 1) Tryd.isAgg26 rfl rfl rfl) (fun w hw => ?_)
        exact ⟨by rw [openEnt_no hno]; rfl, hw.mod⟩
    · skip
      try simp only [vN_T, vN_F, nmE_T, nmE_F, wI_T, wI_F, data_T, data_F, ino_T, ino_F, notT, notF, bneT, bneF, beqT, beqF, decT, decF] at h6
      have hno : ¬ OkE l := fun h => by have := h.1; omega
      refine At.callT0 (fun w hw => must_F _ w) Tryd.call84 rfl ?_
      refine At.thenE ?_
      refine At.leaveP rfl Tryd.call112 ((erase_perm _ 2 _ rfl).trans (List.Perm.cons _ (erase_perm _ 1 _ rfl))) (fun w hw => caughtEntry_pan _ _ _ _ _ w (hw.blk (i := 0) rfl) rfl (hw.blk (i := 1) rfl) hw.ne01) rfl (ResOf.all (i := 0) Tryd.isAgg92 Tryd.sizeOf92 rfl rfl rfl) (ResOf.one (i := 1) Tryd.isAgg26 rfl rfl rfl) (fun w hw => ?_)
      exact ⟨by rw [openEnt_no hno]; rfl, hw.mod⟩
  · skip
    try simp only [vN_T, vN_F, nmE_T, nmE_F, wI_T, wI_F, data_T, data_F, ino_T, ino_F, notT, notF, bneT, bneF, beqT, beqF, decT, decF] at h4
    have hno : ¬ OkE l := fun h => by have h1 := ((entL_iff hl h.1).1 h.2.2).1; rw [h4] at h1; cases h1
    refine At.callT0 (fun w hw => must_F _ w) Tryd.call84 rfl ?_
    refine At.thenE ?_
    refine At.leaveP rfl Tryd.call112 ((erase_perm _ 1 _ rfl).trans (List.Perm.cons _ (erase_perm _ 0 _ rfl))) (fun w hw => caughtEntry_pan _ _ _ _ _ w (hw.blk (i := 0) rfl) rfl (hw.blk (i := 1) rfl) hw.ne01) rfl (ResOf.all (i := 0) Tryd.isAgg92 Tryd.sizeOf92 rfl rfl rfl) (ResOf.one (i := 1) Tryd.isAgg26 rfl rfl rfl) (fun w hw => ?_)
    exact ⟨by rw [openEnt_no hno]; rfl, hw.mod⟩

theorem openEntR_p (l : List UInt8) (w : World) (hl : l.length = 64) :
    PureC Tryd.prog 56 [.agg (l.map bv).toArray] (openEntV l) w := by
  refine enter0 Tryd.func56 rfl Tryd.ntmps56 rfl ?_
  have n0 := num_lt (l := l) 0 1
  have n1 := num_lt (l := l) 1 1
  have n8 := num_lt (l := l) 8 8
  have n16 := num_lt (l := l) 16 4
  have n20 := num_lt (l := l) 20 4
  have n24 := num_lt (l := l) 24 4
  have n28 := num_lt (l := l) 28 4
  obtain ⟨u0, hu0⟩ : ∃ u, l[0]? = some u := ⟨_, List.getElem?_eq_getElem (by omega)⟩
  obtain ⟨u1, hu1⟩ : ∃ u, l[1]? = some u := ⟨_, List.getElem?_eq_getElem (by omega)⟩
  have e0 := num_one hu0
  have e1 := num_one hu1
  simp only [envOf]
  refine At.seq ?_
  refine At.region ?_
  refine At.box rfl rfl rfl (fun b1 => ?_)
  refine At.alloc Tryd.zeroValue92 rfl rfl (fun b2 => ?_)
  refine At.val (Val.assign rfl) rfl rfl rfl ?_
  refine At.nil ?_
  refine At.thenN ?_
  refine At.seq ?_
  refine At.region ?_
  refine At.val (Val.indexArr 0 rfl Tryd.underlying30 Tryd.sizeOf5 rfl rfl (by decide) (by decide)) rfl rfl rfl ?_
  refine At.val (Val.load (i := 1) (v := bv u0) Tryd.isAgg5 rfl rfl (by rw [List.getElem?_map, hu0]; rfl)) rfl rfl rfl ?_
  refine At.val (Val.toI Tryd.underlying5 Tryd.underlying3 rfl (by omega) (by omega)) rfl rfl rfl ?_
  rw [← e0]
  refine At.val (Val.build (fun a ha => by simp only [List.map_toArray, List.map_cons, List.map_nil, ha.eval (x := (.tmp 13)) rfl] <;> rfl) (bld_92_0 _ )) rfl rfl rfl ?_
  refine At.alloc Tryd.zeroValue92 rfl rfl (fun b3 => ?_)
  refine At.storeAll (i := 0) Tryd.sizeOf92 rfl rfl rfl (by simp [Value.oneCell']) rfl rfl ?_
  simp only [List.set_cons_zero, List.set_cons_succ]
  refine At.nil ?_
  refine At.thenN ?_
  refine At.seq ?_
  refine At.region ?_
  refine At.val (Val.loadAll (i := 2) Tryd.isAgg30 Tryd.sizeOf30 rfl rfl (by rw [List.length_map]; exact hl)) rfl rfl rfl ?_
  refine At.callP (fun w hw => numR_p l 8 8 w hl (by decide) (by decide)) Tryd.call89 rfl rfl ?_
  refine At.val (Val.field 1 rfl fo_92_1 rfl) rfl rfl rfl ?_
  refine At.store (i := 0) Tryd.sizeOf40 rfl rfl rfl rfl (by first | decide | simp) ?_
  simp only [List.set_cons_zero, List.set_cons_succ]
  refine At.nil ?_
  refine At.thenN ?_
  refine At.seq ?_
  refine At.region ?_
  refine At.val (Val.loadAll (i := 2) Tryd.isAgg30 Tryd.sizeOf30 rfl rfl (by rw [List.length_map]; exact hl)) rfl rfl rfl ?_
  refine At.callP (fun w hw => numR_p l 16 4 w hl (by decide) (by decide)) Tryd.call89 rfl rfl ?_
  refine At.val (Val.assign rfl) rfl rfl rfl ?_
  refine At.nil ?_
  refine At.thenN ?_
  refine At.seq ?_
  refine At.region ?_
  refine At.val (Val.loadAll (i := 2) Tryd.isAgg30 Tryd.sizeOf30 rfl rfl (by rw [List.length_map]; exact hl)) rfl rfl rfl ?_
  refine At.callP (fun w hw => numR_p l 20 4 w hl (by decide) (by decide)) Tryd.call89 rfl rfl ?_
  refine At.val (Val.assign rfl) rfl rfl rfl ?_
  refine At.nil ?_
  refine At.thenN ?_
  refine At.seq ?_
  refine At.region ?_
  refine At.val (Val.loadAll (i := 2) Tryd.isAgg30 Tryd.sizeOf30 rfl rfl (by rw [List.length_map]; exact hl)) rfl rfl rfl ?_
  refine At.callP (fun w hw => numR_p l 24 4 w hl (by decide) (by decide)) Tryd.call89 rfl rfl ?_
  refine At.val (Val.assign rfl) rfl rfl rfl ?_
  refine At.nil ?_
  refine At.thenN ?_
  refine At.seq ?_
  refine At.region ?_
  refine At.val (Val.loadAll (i := 2) Tryd.isAgg30 Tryd.sizeOf30 rfl rfl (by rw [List.length_map]; exact hl)) rfl rfl rfl ?_
  refine At.callP (fun w hw => numR_p l 28 4 w hl (by decide) (by decide)) Tryd.call89 rfl rfl ?_
  refine At.val (Val.assign rfl) rfl rfl rfl ?_
  refine At.nil ?_
  refine At.thenN ?_
  refine At.seq ?_
  refine At.region ?_
  refine At.val (Val.move rfl) rfl rfl rfl ?_
  first | refine At.val (Val.toI Tryd.underlying40 Tryd.underlying3 rfl (by omega) (by omega)) rfl rfl rfl ?_ | refine At.val (Val.conv Tryd.underlying40 Tryd.underlying3 rfl) rfl rfl rfl ?_
  refine At.val (Val.field 3 rfl fo_92_3 rfl) rfl rfl rfl ?_
  refine At.store (i := 0) Tryd.sizeOf3 rfl rfl rfl rfl (by first | decide | simp) ?_
  simp only [List.set_cons_zero, List.set_cons_succ]
  refine At.nil ?_
  refine At.thenN ?_
  refine At.seq ?_
  refine At.region ?_
  refine At.val (Val.move rfl) rfl rfl rfl ?_
  first | refine At.val (Val.toI Tryd.underlying40 Tryd.underlying3 rfl (by omega) (by omega)) rfl rfl rfl ?_ | refine At.val (Val.conv Tryd.underlying40 Tryd.underlying3 rfl) rfl rfl rfl ?_
  refine At.val (Val.field 4 rfl fo_92_4 rfl) rfl rfl rfl ?_
  refine At.store (i := 0) Tryd.sizeOf3 rfl rfl rfl rfl (by first | decide | simp) ?_
  simp only [List.set_cons_zero, List.set_cons_succ]
  refine At.nil ?_
  refine At.thenN ?_
  refine At.seq ?_
  refine At.region ?_
  refine At.val (Val.move rfl) rfl rfl rfl ?_
  first | refine At.val (Val.toI Tryd.underlying40 Tryd.underlying3 rfl (by omega) (by omega)) rfl rfl rfl ?_ | refine At.val (Val.conv Tryd.underlying40 Tryd.underlying3 rfl) rfl rfl rfl ?_
  refine At.val (Val.field 5 rfl fo_92_5 rfl) rfl rfl rfl ?_
  refine At.store (i := 0) Tryd.sizeOf3 rfl rfl rfl rfl (by first | decide | simp) ?_
  simp only [List.set_cons_zero, List.set_cons_succ]
  refine At.nil ?_
  refine At.thenN ?_
  refine At.join (σ := Unit) (fun _ => True) (fun _ => [(1, .pointer (some ⟨b1, 0, none⟩)), (2, .pointer (some ⟨b2, 0, none⟩)), (4, .pointer (some ⟨b3, 0, none⟩))]) (fun _ => [blk b3 92 ([.int .i64 (num l 0 1 : Nat), .int .u64 (num l 8 8 : Nat), .int .i64 (entO l), .int .i64 (num l 20 4 : Nat), .int .i64 (num l 24 4 : Nat), .int .i64 (num l 28 4 : Nat), .int .i64 (entI l), .string ⟨#[]⟩]), blk b2 92 ([.int .i64 0, .int .u64 0, .int .i64 0, .int .i64 0, .int .i64 0, .int .i64 0, .int .i64 0, .string ⟨#[]⟩]), blk b1 30 (l.map bv)]) ?_ ?_
  · skip
    refine At.seq ?_
    refine At.region ?_
    refine At.val (Val.field 0 rfl fo_92_0 rfl) rfl rfl rfl ?_
    refine At.val (Val.load (i := 0) Tryd.isAgg3 rfl rfl rfl) rfl rfl rfl ?_
    refine At.val (Val.bin rfl rfl rfl) rfl rfl rfl ?_
    refine At.nil ?_
    refine At.thenN ?_
    refine At.cond rfl (fun h4 => ?_) (fun h4 => ?_)
    · skip
      try simp only [vN_T, vN_F, nmE_T, nmE_F, wI_T, wI_F, data_T, data_F, ino_T, ino_F, notT, notF, bneT, bneF, beqT, beqF, decT, decF] at h4
      refine At.region ?_
      refine At.val (Val.move rfl) rfl rfl rfl ?_
      first | refine At.val (Val.toI Tryd.underlying40 Tryd.underlying3 rfl (by omega) (by omega)) rfl rfl rfl ?_ | refine At.val (Val.conv Tryd.underlying40 Tryd.underlying3 rfl) rfl rfl rfl ?_
      refine At.val (Val.field 6 rfl fo_92_6 rfl) rfl rfl rfl ?_
      refine At.store (i := 0) Tryd.sizeOf3 rfl rfl rfl rfl (by first | decide | simp) ?_
      simp only [List.set_cons_zero, List.set_cons_succ]
      refine At.nil ?_
      refine At.thenN ?_
      exact At.meets () trivial (Sub.cons rfl (Sub.cons rfl (Sub.cons rfl Sub.nil))) (by first | (rw [entO_3 (l := l) (by omega), entI_3 (l := l) (by omega)]; exact List.Perm.refl _) | (rw [entO_n (l := l) (by omega), entI_n (l := l) (by omega)]; exact List.Perm.refl _) | (rw [entO_3 (l := l) (by omega), entI_3 (l := l) (by omega)]) | (rw [entO_n (l := l) (by omega), entI_n (l := l) (by omega)]))
    · skip
      try simp only [vN_T, vN_F, nmE_T, nmE_F, wI_T, wI_F, data_T, data_F, ino_T, ino_F, notT, notF, bneT, bneF, beqT, beqF, decT, decF] at h4
      refine At.region ?_
      refine At.val (Val.move rfl) rfl rfl rfl ?_
      first | refine At.val (Val.toI Tryd.underlying40 Tryd.underlying3 rfl (by omega) (by omega)) rfl rfl rfl ?_ | refine At.val (Val.conv Tryd.underlying40 Tryd.underlying3 rfl) rfl rfl rfl ?_
      refine At.val (Val.field 2 rfl fo_92_2 rfl) rfl rfl rfl ?_
      refine At.store (i := 0) Tryd.sizeOf3 rfl rfl rfl rfl (by first | decide | simp) ?_
      simp only [List.set_cons_zero, List.set_cons_succ]
      refine At.nil ?_
      refine At.thenN ?_
      exact At.meets () trivial (Sub.cons rfl (Sub.cons rfl (Sub.cons rfl Sub.nil))) (by first | (rw [entO_3 (l := l) (by omega), entI_3 (l := l) (by omega)]; exact List.Perm.refl _) | (rw [entO_n (l := l) (by omega), entI_n (l := l) (by omega)]; exact List.Perm.refl _) | (rw [entO_3 (l := l) (by omega), entI_3 (l := l) (by omega)]) | (rw [entO_n (l := l) (by omega), entI_n (l := l) (by omega)]))
  · skip
    intro _ hs
    refine At.seq ?_
    refine At.seq ?_
    refine At.region ?_
    refine At.val (Val.indexArr 1 rfl Tryd.underlying30 Tryd.sizeOf5 rfl rfl (by decide) (by decide)) rfl rfl rfl ?_
    refine At.val (Val.load (i := 2) (v := bv u1) Tryd.isAgg5 rfl rfl (by rw [List.getElem?_map, hu1]; rfl)) rfl rfl rfl ?_
    refine At.val (Val.bin rfl rfl rfl) rfl rfl rfl ?_
    refine At.nil ?_
    refine At.thenN ?_
    refine At.cond rfl (fun h5 => ?_) (fun h5 => ?_)
    · skip
      try simp only [vN_T, vN_F, nmE_T, nmE_F, wI_T, wI_F, data_T, data_F, ino_T, ino_F, notT, notF, bneT, bneF, beqT, beqF, decT, decF] at h5
      have hno : ¬ OkE l := fun h => by have := h.1; omega
      refine At.seq ?_
      refine At.region ?_
      refine At.val (Val.build (fun a ha => by simp only [List.map_toArray, List.map_cons, List.map_nil] <;> rfl) (bld_92_)) rfl rfl rfl ?_
      refine At.storeAll (i := 1) Tryd.sizeOf92 rfl rfl rfl (by simp [Value.oneCell']) rfl rfl ?_
      simp only [List.set_cons_zero, List.set_cons_succ]
      refine At.val (Val.assign rfl) rfl rfl rfl ?_
      refine At.nil ?_
      refine At.thenN ?_
      refine At.retC ?_
      refine At.thenR ?_
      refine At.ret2 (.inl rfl) rfl rfl (ResOf.all (i := 1) Tryd.isAgg92 Tryd.sizeOf92 rfl rfl rfl) rfl (fun w hw => ?_)
      first | exact ⟨by rw [openEnt_no hno]; rfl, hw.mod⟩ | exact ⟨by rw [openEnt_no (fun h => by have h2 := hline.2 h.2.2; simp_all)]; rfl, hw.mod⟩ | exact ⟨by rw [openEnt_yes ⟨hn28, hg, hline.1 (by simp_all)⟩]; rfl, hw.mod⟩
    · skip
      try simp only [vN_T, vN_F, nmE_T, nmE_F, wI_T, wI_F, data_T, data_F, ino_T, ino_F, notT, notF, bneT, bneF, beqT, beqF, decT, decF] at h5
      have hn28 : num l 1 1 ≤ 28 := by omega
      have hNs := entN_size hl hn28
      have hline := entL_line hl hn28
      refine At.skipC ?_
      refine At.thenN ?_
      refine At.seq ?_
      refine At.region ?_
      refine At.val (Val.indexArr 1 rfl Tryd.underlying30 Tryd.sizeOf5 rfl rfl (by decide) (by decide)) rfl rfl rfl ?_
      refine At.val (Val.load (i := 2) (v := bv u1) Tryd.isAgg5 rfl rfl (by rw [List.getElem?_map, hu1]; rfl)) rfl rfl rfl ?_
      first | refine At.val (Val.toI Tryd.underlying5 Tryd.underlying3 rfl (by omega) (by omega)) rfl rfl rfl ?_ | refine At.val (Val.conv Tryd.underlying5 Tryd.underlying3 rfl) rfl rfl rfl ?_
      first | refine At.val (Val.addI rfl rfl (by omega) (by omega)) rfl rfl rfl ?_ | refine At.val (Val.bin rfl rfl rfl) rfl rfl rfl ?_
      refine At.val (Val.cutArr 32 (32 + num l 1 1) 32 (num l 1 1) 32 Tryd.underlying30 Tryd.sizeOf5 rfl ⟨_, _, rfl, by omega, by omega⟩ ⟨_, _, rfl, by omega, by omega⟩ (by omega) (by omega) rfl (by omega) rfl) rfl rfl rfl ?_
      refine At.val (Val.strOf (l := (l.drop 32).take (num l 1 1)) Tryd.underlying54 Tryd.underlying5 Tryd.underlying9 rfl (by rw [List.length_take, List.length_drop]; omega) (fun w hw => by have := cut_bytes (c := 64) (at_ := 32) (n := num l 1 1) ((hw.blk (i := 2) rfl).bytes') (by omega) (by omega); simpa using this)) rfl rfl rfl ?_
      rw [show (ByteArray.mk ((l.drop 32).take (num l 1 1)).toArray) = entN l from rfl]
      refine At.val (Val.field 7 rfl fo_92_7 rfl) rfl rfl rfl ?_
      refine At.store (i := 0) Tryd.sizeOf9 rfl rfl rfl rfl (by first | decide | simp) ?_
      simp only [List.set_cons_zero, List.set_cons_succ]
      refine At.nil ?_
      refine At.thenN ?_
      refine At.seq ?_
      refine At.region ?_
      refine At.val (Val.loadAll (i := 0) Tryd.isAgg92 Tryd.sizeOf92 rfl rfl rfl) rfl rfl rfl ?_
      refine At.callP (fun w hw => packEntR_p _ _ _ _ _ _ _ (entN l) w (by omega) (by omega) (by omega)) Tryd.call54 rfl rfl ?_
      by_cases hg : GoodE (num l 0 1 : Nat) (num l 8 8 : Nat) (entO l) (num l 20 4 : Nat) (num l 24 4 : Nat) (num l 28 4 : Nat) (entI l) (entN l)
      · skip
        rw [packEnt_yes hg]
        refine At.val (Val.move rfl) rfl rfl rfl ?_
        refine At.val (Val.extract rfl rfl) rfl rfl rfl ?_
        refine At.val (Val.extract rfl rfl) rfl rfl rfl ?_
        refine At.alloc zero_30 zc_30 rfl (fun b6 => ?_)
        refine At.storeAll (i := 0) Tryd.sizeOf30 rfl rfl (lineV_length (by rw [entB_length, size_len]; omega)) (by simp [Value.oneCell']) rfl (by simp) ?_
        simp only [List.set_cons_zero, List.set_cons_succ]
        refine At.val (Val.assign rfl) rfl rfl rfl ?_
        refine At.nil ?_
        refine At.thenN ?_
        refine At.seq ?_
        refine At.seq ?_
        refine At.region ?_
        refine At.val (Val.move rfl) rfl rfl rfl ?_
        refine At.val (Val.bin rfl rfl rfl) rfl rfl rfl ?_
        refine At.val (Val.move rfl) rfl rfl rfl ?_
        refine At.yes rfl rfl ?_
        refine At.val (Val.loadAll (i := 0) Tryd.isAgg30 Tryd.sizeOf30 rfl rfl (lineV_length (by rw [entB_length, size_len]; omega))) rfl rfl rfl ?_
        refine At.yes rfl rfl ?_
        refine At.val (Val.loadAll (i := 3) Tryd.isAgg30 Tryd.sizeOf30 rfl rfl (by rw [List.length_map]; exact hl)) rfl rfl rfl ?_
        refine At.yes rfl rfl ?_
        refine At.val (Val.neAgg Tryd.eqGuardType30 (fun w => run_equal_bytes Tryd.underlying30 Tryd.underlying5 Tryd.isAgg5 Tryd.sizeOf5 _ _ (lineL_length (by rw [entB_length, size_len]; omega)) hl w) rfl rfl) rfl rfl rfl ?_
        refine At.val (Val.pickF rfl rfl) rfl rfl rfl ?_
        refine At.nil ?_
        refine At.thenN ?_
        refine At.cond rfl (fun h7 => ?_) (fun h7 => ?_)
        · skip
          try simp only [vN_T, vN_F, nmE_T, nmE_F, wI_T, wI_F, data_T, data_F, ino_T, ino_F, notT, notF, bneT, bneF, beqT, beqF, decT, decF] at h7
          refine At.seq ?_
          refine At.region ?_
          refine At.val (Val.build (fun a ha => by simp only [List.map_toArray, List.map_cons, List.map_nil] <;> rfl) (bld_92_)) rfl rfl rfl ?_
          refine At.storeAll (i := 2) Tryd.sizeOf92 rfl rfl rfl (by simp [Value.oneCell']) rfl rfl ?_
          simp only [List.set_cons_zero, List.set_cons_succ]
          refine At.val (Val.assign rfl) rfl rfl rfl ?_
          refine At.nil ?_
          refine At.thenN ?_
          refine At.retC ?_
          refine At.thenR ?_
          refine At.ret2 (.inl rfl) rfl rfl (ResOf.all (i := 2) Tryd.isAgg92 Tryd.sizeOf92 rfl rfl rfl) rfl (fun w hw => ?_)
          first | exact ⟨by rw [openEnt_no hno]; rfl, hw.mod⟩ | exact ⟨by rw [openEnt_no (fun h => by have h2 := hline.2 h.2.2; simp_all)]; rfl, hw.mod⟩ | exact ⟨by rw [openEnt_yes ⟨hn28, hg, hline.1 (by simp_all)⟩]; rfl, hw.mod⟩
        · skip
          try simp only [vN_T, vN_F, nmE_T, nmE_F, wI_T, wI_F, data_T, data_F, ino_T, ino_F, notT, notF, bneT, bneF, beqT, beqF, decT, decF] at h7
          refine At.skipC ?_
          refine At.thenN ?_
          refine At.seq ?_
          refine At.region ?_
          refine At.val (Val.loadAll (i := 1) Tryd.isAgg92 Tryd.sizeOf92 rfl rfl rfl) rfl rfl rfl ?_
          refine At.storeAll (i := 2) Tryd.sizeOf92 rfl rfl rfl (by simp [Value.oneCell']) rfl rfl ?_
          simp only [List.set_cons_zero, List.set_cons_succ]
          refine At.val (Val.assign rfl) rfl rfl rfl ?_
          refine At.nil ?_
          refine At.thenN ?_
          refine At.retC ?_
          refine At.ret2 (.inl rfl) rfl rfl (ResOf.all (i := 2) Tryd.isAgg92 Tryd.sizeOf92 rfl rfl rfl) rfl (fun w hw => ?_)
          first | exact ⟨by rw [openEnt_no hno]; rfl, hw.mod⟩ | exact ⟨by rw [openEnt_no (fun h => by have h2 := hline.2 h.2.2; simp_all)]; rfl, hw.mod⟩ | exact ⟨by rw [openEnt_yes ⟨hn28, hg, hline.1 (by simp_all)⟩]; rfl, hw.mod⟩
      · skip
        rw [packEnt_no hg]
        have hno : ¬ OkE l := fun h => hg h.2.1
        refine At.val (Val.move rfl) rfl rfl rfl ?_
        refine At.val (Val.extract rfl rfl) rfl rfl rfl ?_
        refine At.val (Val.extract rfl rfl) rfl rfl rfl ?_
        refine At.alloc zero_30 zc_30 rfl (fun b8 => ?_)
        refine At.storeAll (i := 0) Tryd.sizeOf30 rfl rfl (by simp [zs]) (by simp [Value.oneCell']) rfl (by simp) ?_
        simp only [List.set_cons_zero, List.set_cons_succ]
        refine At.val (Val.assign rfl) rfl rfl rfl ?_
        refine At.nil ?_
        refine At.thenN ?_
        refine At.seq ?_
        refine At.seq ?_
        refine At.region ?_
        refine At.val (Val.move rfl) rfl rfl rfl ?_
        refine At.val (Val.bin rfl rfl rfl) rfl rfl rfl ?_
        refine At.val (Val.move rfl) rfl rfl rfl ?_
        refine At.no rfl rfl rfl rfl ?_
        refine At.no rfl rfl rfl rfl ?_
        refine At.no rfl rfl rfl rfl ?_
        refine At.val (Val.pickT rfl rfl) rfl rfl rfl ?_
        refine At.nil ?_
        refine At.thenN ?_
        refine At.condT rfl ?_
        refine At.seq ?_
        refine At.region ?_
        refine At.val (Val.build (fun a ha => by simp only [List.map_toArray, List.map_cons, List.map_nil] <;> rfl) (bld_92_)) rfl rfl rfl ?_
        refine At.storeAll (i := 2) Tryd.sizeOf92 rfl rfl rfl (by simp [Value.oneCell']) rfl rfl ?_
        simp only [List.set_cons_zero, List.set_cons_succ]
        refine At.val (Val.assign rfl) rfl rfl rfl ?_
        refine At.nil ?_
        refine At.thenN ?_
        refine At.retC ?_
        refine At.thenR ?_
        refine At.ret2 (.inl rfl) rfl rfl (ResOf.all (i := 2) Tryd.isAgg92 Tryd.sizeOf92 rfl rfl rfl) rfl (fun w hw => ?_)
        first | exact ⟨by rw [openEnt_no hno]; rfl, hw.mod⟩ | exact ⟨by rw [openEnt_no (fun h => by have h2 := hline.2 h.2.2; simp_all)]; rfl, hw.mod⟩ | exact ⟨by rw [openEnt_yes ⟨hn28, hg, hline.1 (by simp_all)⟩]; rfl, hw.mod⟩

end Go.Proofs.YtoiebgnmknbkjaaDoor
