/- Parts of the proof, joined: see the law's text. -/
import Derived.Test.YthdmlpjhcalliaaGreatDoorY5
import Derived.Test.YthdmlpjhcalliaaGreatDoorY4
import Derived.Test.YthdmlpjhcalliaaGreatDoorY2
import Derived.Test.YthdmlpjhcalliaaGreatDoorY1
set_option linter.unusedVariables false
set_option linter.unusedSimpArgs false
namespace Go.Proofs.YthdmlpjhcalliaaGreatDoor
open Go Go.Wk
theorem num_one {l : List UInt8} {a : Nat} {u : UInt8} (h : l[a]? = some u) : num l a 1 = u.toNat := by
  have := num_succ (k := 0) (l := l) (at_ := a) (c := u) h
  rw [num_zero] at this
  simpa using this
theorem openEnt_p (l : List UInt8) (w : World) (ht : Tab w) (hl : l.length = 64) :
    PureC Tryz.prog 33 [.agg (l.map bv).toArray] (openEntV l) w := by
 refine enterD0 Tryz.func33 rfl Tryz.ntmps33 rfl ?_
 have n0 := num_lt (l := l) 0 1
 have n1 := num_lt (l := l) 1 1
 have n8 := num_lt (l := l) 8 8
 have n16 := num_lt (l := l) 16 4
 have n20 := num_lt (l := l) 20 4
 have n24 := num_lt (l := l) 24 4
 have n28 := num_lt (l := l) 28 4
 simp only [envOf]
 refine tR (At.box rfl rfl rfl (fun b1 => (At.alloc Tryz.zeroValue37 rfl rfl (fun b2 => (At.alloc Tryz.zeroValue67 rfl rfl (fun b3 => (tE (tR (At.defer rfl (tE (tR ?_)))))))))))
 refine tV (Val.loadAll (i := 2) Tryz.isAgg39 Tryz.sizeOf39 rfl rfl (by rw [List.length_map]; exact hl)) rfl (At.callP (fun w hw => whole_p _ w hl (ht.mod hw.mod)) Tryz.call63 rfl rfl ?_)
 refine At.split (t := 8) rfl (fun h4 => ?_) (fun h4 => ?_)
 ·try simp only [vN_T, vN_F, nmE_T, nmE_F, wI_T, wI_F, data_T, data_F, ino_T, ino_F, notT, notF, bneT, bneF, beqT, beqF, decT, decF] at h4
  have hwhole := h4
  refine At.callP (fun w hw => must_T _ w) Tryz.call62 rfl rfl (tE (tR (tV (Val.cutArr 0 64 0 l.length 64 Tryz.underlying39 Tryz.sizeOf5 rfl rfl rfl (by decide) (by decide) rfl (by omega) rfl) rfl ?_)))
  refine tV (Val.build (fun a ha => by simp only [List.map_toArray, List.map_cons, List.map_nil, ha.eval (x := (.tmp 10)) rfl] <;> rfl) (bld_113_0 _ _ _ )) rfl (At.alloc Tryz.zeroValue113 rfl rfl (fun b5 => (At.storeAll (i := 0) Tryz.sizeOf113 rfl rfl rfl (by simp [Value.oneCell']) rfl rfl ?_)))
  simp only [sc0, scS]
  refine At.nil ?_
  rw [show ([Value.slice (some ⟨b1, 0, none⟩) l.length 64, Value.int IntKind.i64 0] : List Value) = eyeC b1 0 l.length 64 0 from rfl]
  refine At.thenN (tR (At.call1 0 rfl (fun w hw hr => eyeNumber_p _ b1 0 64 0 1 l w hr (hw.blk (i := 3) rfl).bytes' (hw.apart 3 0 rfl rfl (by decide)) (by omega) (by omega) (by omega) (by decide)) Tryz.call78 rfl rfl ?_))
  simp only [sc0, scS]
  first | refine tV (Val.toI Tryz.underlying34 Tryz.underlying3 rfl (by omega) (by omega)) rfl ?_ | refine tV (Val.conv Tryz.underlying34 Tryz.underlying3 rfl) rfl ?_
  refine tV (Val.field 0 rfl fo_37_0 rfl) rfl (At.store (i := 2) Tryz.sizeOf3 rfl rfl rfl rfl (by first | decide | simp) ?_)
  simp only [sc0, scS]
  refine tE (tR (At.call1 0 rfl (fun w hw hr => eyeNumber_p _ b1 0 64 1 1 l w hr (hw.blk (i := 3) rfl).bytes' (hw.apart 3 0 rfl rfl (by decide)) (by omega) (by omega) (by omega) (by decide)) Tryz.call78 rfl rfl ?_))
  simp only [sc0, scS]
  first | refine tV (Val.toI Tryz.underlying34 Tryz.underlying3 rfl (by omega) (by omega)) rfl ?_ | refine tV (Val.conv Tryz.underlying34 Tryz.underlying3 rfl) rfl ?_
  refine tA rfl rfl (tE (tR (tM rfl rfl (tV (Val.bin rfl rfl rfl) rfl ?_))))
  refine At.split (t := 18) rfl (fun h6 => ?_) (fun h6 => ?_)
  ·try simp only [vN_T, vN_F, nmE_T, nmE_F, wI_T, wI_F, data_T, data_F, ino_T, ino_F, notT, notF, bneT, bneF, beqT, beqF, decT, decF] at h6
   have hn28 : num l 1 1 ≤ 28 := by omega
   have hline := entL_iff hl hn28
   have hNs := entN_size hl hn28
   refine At.callP (fun w hw => must_T _ w) Tryz.call62 rfl rfl (tE (tR ?_))
   by_cases hq : allZero ((l.drop 2).take 6)
   ·have hz6 := hq
    refine At.call1 0 rfl (fun w hw hr => eyeZeros_T _ b1 0 64 2 6 l 34 w hr (hw.blk (i := 3) rfl).bytes' (hw.apart 3 0 rfl rfl (by decide)) (by omega) (by omega) (by omega) hq) Tryz.call66 rfl rfl ?_
    simp only [sc0, scS]
    refine tE (tR (At.call1 0 rfl (fun w hw hr => eyeNumber_p _ b1 0 64 8 8 l w hr (hw.blk (i := 3) rfl).bytes' (hw.apart 3 0 rfl rfl (by decide)) (by omega) (by omega) (by omega) (by decide)) Tryz.call78 rfl rfl ?_))
    simp only [sc0, scS]
    refine tV (Val.field 1 rfl fo_37_1 rfl) rfl (At.store (i := 2) Tryz.sizeOf34 rfl rfl rfl rfl (by first | decide | simp) ?_)
    simp only [sc0, scS]
    refine tE (tR (At.call1 0 rfl (fun w hw hr => eyeHalf_p _ b1 0 64 16 l w hr (hw.blk (i := 3) rfl).bytes' (hw.apart 3 0 rfl rfl (by decide)) (by omega) (by omega) (by omega)) Tryz.call65 rfl rfl ?_))
    simp only [sc0, scS]
    refine tA rfl rfl (tE ?_)
    refine At.join (σ := Unit) (fun _ => True) (fun _ => [(1, .pointer (some ⟨b1, 0, none⟩)), (2, .pointer (some ⟨b2, 0, none⟩)), (3, .pointer (some ⟨b3, 0, none⟩)), (4, .pointer (some ⟨b5, 0, none⟩)), (5, .int .i64 (num l 1 1 : Nat))]) (fun _ => [blk b5 113 (eyeC b1 0 l.length 64 (16 + 4)), blk b3 67 ([.int .i64 0]), blk b2 37 ([.int .i64 (num l 0 1 : Nat), .int .u64 (num l 8 8 : Nat), .int .i64 (entO l), .int .i64 0, .int .i64 0, .int .i64 0, .int .i64 (entI l), .string ⟨#[]⟩]), blk b1 39 (l.map bv)]) ?_ ?_
    ·refine tR (tV (Val.field 0 rfl fo_37_0 rfl) rfl (tV (Val.load (i := 2) Tryz.isAgg3 rfl rfl rfl) rfl (tV (Val.bin rfl rfl rfl) rfl (tE ?_))))
     refine At.cond rfl (fun h7 => ?_) (fun h7 => ?_)
     ·try simp only [vN_T, vN_F, nmE_T, nmE_F, wI_T, wI_F, data_T, data_F, ino_T, ino_F, notT, notF, bneT, bneF, beqT, beqF, decT, decF] at h7
      refine At.region (tM rfl rfl (tV (Val.field 6 rfl fo_37_6 rfl) rfl (At.store (i := 2) Tryz.sizeOf3 rfl rfl rfl rfl (by first | decide | simp) ?_)))
      simp only [sc0, scS]
      refine tE ?_
      exact At.meets () trivial (Sub.cons rfl (Sub.cons rfl (Sub.cons rfl (Sub.cons rfl (Sub.cons rfl Sub.nil))))) (by first | (rw [entO_3 (l := l) (by omega), entI_3 (l := l) (by omega)]; exact List.Perm.refl _) | (rw [entO_n (l := l) (by omega), entI_n (l := l) (by omega)]; exact List.Perm.refl _) | (rw [entO_3 (l := l) (by omega), entI_3 (l := l) (by omega)]) | (rw [entO_n (l := l) (by omega), entI_n (l := l) (by omega)]))
     ·try simp only [vN_T, vN_F, nmE_T, nmE_F, wI_T, wI_F, data_T, data_F, ino_T, ino_F, notT, notF, bneT, bneF, beqT, beqF, decT, decF] at h7
      refine At.region (tM rfl rfl (tV (Val.field 2 rfl fo_37_2 rfl) rfl (At.store (i := 2) Tryz.sizeOf3 rfl rfl rfl rfl (by first | decide | simp) ?_)))
      simp only [sc0, scS]
      refine tE ?_
      exact At.meets () trivial (Sub.cons rfl (Sub.cons rfl (Sub.cons rfl (Sub.cons rfl (Sub.cons rfl Sub.nil))))) (by first | (rw [entO_3 (l := l) (by omega), entI_3 (l := l) (by omega)]; exact List.Perm.refl _) | (rw [entO_n (l := l) (by omega), entI_n (l := l) (by omega)]; exact List.Perm.refl _) | (rw [entO_3 (l := l) (by omega), entI_3 (l := l) (by omega)]) | (rw [entO_n (l := l) (by omega), entI_n (l := l) (by omega)]))
    ·intro _ hs
     refine tR (At.call1 0 rfl (fun w hw hr => eyeHalf_p _ b1 0 64 20 l w hr (hw.blk (i := 3) rfl).bytes' (hw.apart 3 0 rfl rfl (by decide)) (by omega) (by omega) (by omega)) Tryz.call65 rfl rfl ?_)
     simp only [sc0, scS]
     refine At.call1 0 rfl (fun w hw hr => eyeHalf_p _ b1 0 64 24 l w hr (hw.blk (i := 3) rfl).bytes' (hw.apart 3 0 rfl rfl (by decide)) (by omega) (by omega) (by omega)) Tryz.call65 rfl rfl ?_
     simp only [sc0, scS]
     refine At.call1 0 rfl (fun w hw hr => eyeHalf_p _ b1 0 64 28 l w hr (hw.blk (i := 3) rfl).bytes' (hw.apart 3 0 rfl rfl (by decide)) (by omega) (by omega) (by omega)) Tryz.call65 rfl rfl ?_
     simp only [sc0, scS]
     refine tV (Val.field 3 rfl fo_37_3 rfl) rfl (At.store (i := 2) Tryz.sizeOf3 rfl rfl rfl rfl (by first | decide | simp) ?_)
     simp only [sc0, scS]
     refine tV (Val.field 4 rfl fo_37_4 rfl) rfl (At.store (i := 2) Tryz.sizeOf3 rfl rfl rfl rfl (by first | decide | simp) ?_)
     simp only [sc0, scS]
     refine tV (Val.field 5 rfl fo_37_5 rfl) rfl (At.store (i := 2) Tryz.sizeOf3 rfl rfl rfl rfl (by first | decide | simp) ?_)
     simp only [sc0, scS]
     refine tE (tR (tV (Val.field 1 rfl fo_113_1 rfl) rfl (tV (Val.load (i := 0) Tryz.isAgg3 rfl rfl rfl) rfl (tV (Val.field 1 rfl fo_113_1 rfl) rfl (tV (Val.load (i := 0) Tryz.isAgg3 rfl rfl rfl) rfl (tM rfl rfl ?_))))))
     first | refine tV (Val.addI rfl rfl (by omega) (by omega)) rfl ?_ | refine tV (Val.bin rfl rfl rfl) rfl ?_
     refine tV (Val.cutArr 32 (32 + num l 1 1) 32 (num l 1 1) 32 Tryz.underlying39 Tryz.sizeOf5 rfl ⟨_, _, rfl, by omega, by omega⟩ ⟨_, _, rfl, by omega, by omega⟩ (by omega) (by omega) rfl (by omega) rfl) rfl ?_
     refine tV (Val.strOf (l := (l.drop 32).take (num l 1 1)) Tryz.underlying45 Tryz.underlying5 Tryz.underlying9 rfl (by rw [List.length_take, List.length_drop]; omega) (fun w hw => by have := cut_bytes (c := 64) (at_ := 32) (n := num l 1 1) ((hw.blk (i := 3) rfl).bytes') (by omega) (by omega); simpa using this)) rfl ?_
     rw [show (ByteArray.mk ((l.drop 32).take (num l 1 1)).toArray) = entN l from rfl]
     refine tV (Val.field 7 rfl fo_37_7 rfl) rfl (At.store (i := 2) Tryz.sizeOf9 rfl rfl rfl rfl (by first | decide | simp) ?_)
     simp only [sc0, scS]
     refine tE (tR (tV (Val.field 1 rfl fo_113_1 rfl) rfl (tV (Val.load (i := 0) Tryz.isAgg3 rfl rfl rfl) rfl (tM rfl rfl ?_))))
     first | refine tV (Val.addI rfl rfl (by omega) (by omega)) rfl ?_ | refine tV (Val.bin rfl rfl rfl) rfl ?_
     refine tV (Val.field 1 rfl fo_113_1 rfl) rfl (At.store (i := 0) Tryz.sizeOf3 rfl rfl rfl rfl (by first | decide | simp) ?_)
     simp only [sc0, scS]
     refine At.nil ?_
     rw [show ([Value.slice (some ⟨b1, 0, none⟩) l.length 64, Value.int IntKind.i64 (((28 + 4 : Nat) : Int) + ((num l 1 1 : Nat) : Int))] : List Value) = eyeC b1 0 l.length 64 (32 + num l 1 1) from by simp]
     refine At.thenN (tR (tM rfl rfl (tV (Val.subI rfl rfl (by omega) (by omega)) rfl ?_)))
     rw [show (28 : Int) - ((num l 1 1 : Nat) : Int) = ((28 - num l 1 1 : Nat) : Int) from by omega]
     by_cases hq : allZero ((l.drop (32 + num l 1 1)).take (28 - num l 1 1))
     ·have hzz := hq
      refine At.call1 0 rfl (fun w hw hr => eyeZeros_T _ b1 0 64 (32 + num l 1 1) (28 - num l 1 1) l 34 w hr (hw.blk (i := 3) rfl).bytes' (hw.apart 3 0 rfl rfl (by decide)) (by omega) (by omega) (by omega) hq) Tryz.call66 rfl rfl ?_
      simp only [sc0, scS]
      refine tE (tR (tV (Val.loadAll (i := 2) Tryz.isAgg37 Tryz.sizeOf37 rfl rfl rfl) rfl (At.callP (fun w hw => goodEnt_p _ _ _ _ _ _ _ (entN l) w (by omega) (by omega)) Tryz.call75 rfl rfl ?_)))
      refine At.split (t := 55) rfl (fun h8 => ?_) (fun h8 => ?_)
      ·try simp only [vN_T, vN_F, nmE_T, nmE_F, wI_T, wI_F, data_T, data_F, ino_T, ino_F, notT, notF, bneT, bneF, beqT, beqF, decT, decF] at h8
       have hg : GoodE (num l 0 1 : Nat) (num l 8 8 : Nat) (entO l) (num l 20 4 : Nat) (num l 24 4 : Nat) (num l 28 4 : Nat) (entI l) (entN l) := by simpa using h8
       refine At.callP (fun w hw => must_T _ w) Tryz.call62 rfl rfl (tE (tR (tV (Val.loadAll (i := 2) Tryz.isAgg37 Tryz.sizeOf37 rfl rfl rfl) rfl (At.storeAll (i := 2) Tryz.sizeOf37 rfl rfl rfl (by simp [Value.oneCell']) rfl rfl ?_))))
       simp only [sc0, scS]
       refine At.store (i := 1) Tryz.sizeOf67 rfl rfl rfl rfl (by first | decide | simp) ?_
       simp only [sc0, scS]
       refine tE (At.retC (At.leaveN (.inl rfl) rfl Tryz.call77 (fun w hw => caughtEntry_idle _ _ w) rfl (ResOf.all (i := 2) Tryz.isAgg37 Tryz.sizeOf37 rfl rfl rfl) (ResOf.one (i := 1) Tryz.isAgg67 rfl rfl rfl) (fun w hw => ?_)))
       exact ⟨by rw [openEnt_yes ⟨hn28, hg, hline.2 ⟨hwhole, hz6, hzz⟩⟩]; rfl, hw.mod⟩
      ·try simp only [vN_T, vN_F, nmE_T, nmE_F, wI_T, wI_F, data_T, data_F, ino_T, ino_F, notT, notF, bneT, bneF, beqT, beqF, decT, decF] at h8
       have hno : ¬ OkE l := fun h => absurd h.2.1 (by simpa using h8)
       refine At.callT0 (fun w hw => must_F _ w) Tryz.call62 rfl (At.thenE (At.leaveP rfl Tryz.call77 ((erase_perm _ 2 _ rfl).trans (List.Perm.cons _ (erase_perm _ 1 _ rfl))) (fun w hw => caughtEntry_pan _ _ _ _ _ w (hw.blk (i := 0) rfl) rfl (hw.blk (i := 1) rfl) hw.ne01) rfl (ResOf.all (i := 0) Tryz.isAgg37 Tryz.sizeOf37 rfl rfl rfl) (ResOf.one (i := 1) Tryz.isAgg67 rfl rfl rfl) (fun w hw => ?_)))
       exact ⟨by rw [openEnt_no hno]; rfl, hw.mod⟩
     ·have hno : ¬ OkE l := fun h => hq (hline.1 h.2.2).2.2
      refine At.callT1 0 rfl (fun w hw hr => eyeZeros_F _ b1 0 64 (32 + num l 1 1) (28 - num l 1 1) l 34 w hr (hw.blk (i := 3) rfl).bytes' (hw.apart 3 0 rfl rfl (by decide)) (by omega) (by omega) (by omega) hq) Tryz.call66 rfl ?_
      simp only [ec0, ecS]
      refine At.thenE (At.leaveP rfl Tryz.call77 ((erase_perm _ 1 _ rfl).trans (List.Perm.cons _ (erase_perm _ 0 _ rfl))) (fun w hw => caughtEntry_pan _ _ _ _ _ w (hw.blk (i := 0) rfl) rfl (hw.blk (i := 1) rfl) hw.ne01) rfl (ResOf.all (i := 0) Tryz.isAgg37 Tryz.sizeOf37 rfl rfl rfl) (ResOf.one (i := 1) Tryz.isAgg67 rfl rfl rfl) (fun w hw => ?_))
      exact ⟨by rw [openEnt_no hno]; rfl, hw.mod⟩
   ·have hno : ¬ OkE l := fun h => hq (hline.1 h.2.2).2.1
    refine At.callT1 0 rfl (fun w hw hr => eyeZeros_F _ b1 0 64 2 6 l 34 w hr (hw.blk (i := 3) rfl).bytes' (hw.apart 3 0 rfl rfl (by decide)) (by omega) (by omega) (by omega) hq) Tryz.call66 rfl ?_
    simp only [ec0, ecS]
    refine At.thenE (At.leaveP rfl Tryz.call77 ((erase_perm _ 1 _ rfl).trans (List.Perm.cons _ (erase_perm _ 0 _ rfl))) (fun w hw => caughtEntry_pan _ _ _ _ _ w (hw.blk (i := 0) rfl) rfl (hw.blk (i := 1) rfl) hw.ne01) rfl (ResOf.all (i := 0) Tryz.isAgg37 Tryz.sizeOf37 rfl rfl rfl) (ResOf.one (i := 1) Tryz.isAgg67 rfl rfl rfl) (fun w hw => ?_))
    exact ⟨by rw [openEnt_no hno]; rfl, hw.mod⟩
  ·try simp only [vN_T, vN_F, nmE_T, nmE_F, wI_T, wI_F, data_T, data_F, ino_T, ino_F, notT, notF, bneT, bneF, beqT, beqF, decT, decF] at h6
   have hno : ¬ OkE l := fun h => by have := h.1; omega
   refine At.callT0 (fun w hw => must_F _ w) Tryz.call62 rfl (At.thenE (At.leaveP rfl Tryz.call77 ((erase_perm _ 2 _ rfl).trans (List.Perm.cons _ (erase_perm _ 1 _ rfl))) (fun w hw => caughtEntry_pan _ _ _ _ _ w (hw.blk (i := 0) rfl) rfl (hw.blk (i := 1) rfl) hw.ne01) rfl (ResOf.all (i := 0) Tryz.isAgg37 Tryz.sizeOf37 rfl rfl rfl) (ResOf.one (i := 1) Tryz.isAgg67 rfl rfl rfl) (fun w hw => ?_)))
   exact ⟨by rw [openEnt_no hno]; rfl, hw.mod⟩
 ·try simp only [vN_T, vN_F, nmE_T, nmE_F, wI_T, wI_F, data_T, data_F, ino_T, ino_F, notT, notF, bneT, bneF, beqT, beqF, decT, decF] at h4
  have hno : ¬ OkE l := fun h => by have h1 := ((entL_iff hl h.1).1 h.2.2).1; rw [h4] at h1; cases h1
  refine At.callT0 (fun w hw => must_F _ w) Tryz.call62 rfl (At.thenE (At.leaveP rfl Tryz.call77 ((erase_perm _ 1 _ rfl).trans (List.Perm.cons _ (erase_perm _ 0 _ rfl))) (fun w hw => caughtEntry_pan _ _ _ _ _ w (hw.blk (i := 0) rfl) rfl (hw.blk (i := 1) rfl) hw.ne01) rfl (ResOf.all (i := 0) Tryz.isAgg37 Tryz.sizeOf37 rfl rfl rfl) (ResOf.one (i := 1) Tryz.isAgg67 rfl rfl rfl) (fun w hw => ?_)))
  exact ⟨by rw [openEnt_no hno]; rfl, hw.mod⟩
theorem openEntR_p (l : List UInt8) (w : World) (hl : l.length = 64) :
    PureC Tryz.prog 34 [.agg (l.map bv).toArray] (openEntV l) w := by
 refine enter0 Tryz.func34 rfl Tryz.ntmps34 rfl ?_
 have n0 := num_lt (l := l) 0 1
 have n1 := num_lt (l := l) 1 1
 have n8 := num_lt (l := l) 8 8
 have n16 := num_lt (l := l) 16 4
 have n20 := num_lt (l := l) 20 4
 have n24 := num_lt (l := l) 24 4
 have n28 := num_lt (l := l) 28 4
 obtain ⟨u0, hu0⟩ : ∃ u, l[0]? = some u := ⟨_, List.getElem?_eq_getElem (by omega)⟩
 obtain ⟨u1, hu1⟩ : ∃ u, l[1]? = some u := ⟨_, List.getElem?_eq_getElem (by omega)⟩
 have e0 := num_one hu0
 have e1 := num_one hu1
 simp only [envOf]
 refine tR (At.box rfl rfl rfl (fun b1 => (At.alloc Tryz.zeroValue37 rfl rfl (fun b2 => (tA rfl rfl (tE (tR (tV (Val.indexArr 0 rfl Tryz.underlying39 Tryz.sizeOf5 rfl rfl (by decide) (by decide)) rfl ?_))))))))
 refine tV (Val.load (i := 1) (v := bv u0) Tryz.isAgg5 rfl rfl (by rw [List.getElem?_map, hu0]; rfl)) rfl ?_
 refine tV (Val.toI Tryz.underlying5 Tryz.underlying3 rfl (by omega) (by omega)) rfl ?_
 rw [← e0]
 refine tV (Val.build (fun a ha => by simp only [List.map_toArray, List.map_cons, List.map_nil, ha.eval (x := (.tmp 13)) rfl] <;> rfl) (bld_37_0 _ )) rfl (At.alloc Tryz.zeroValue37 rfl rfl (fun b3 => (At.storeAll (i := 0) Tryz.sizeOf37 rfl rfl rfl (by simp [Value.oneCell']) rfl rfl ?_)))
 simp only [sc0, scS]
 refine tE (tR ?_)
 refine tV (Val.loadAll (i := 2) Tryz.isAgg39 Tryz.sizeOf39 rfl rfl (by rw [List.length_map]; exact hl)) rfl (At.callP (fun w hw => numR_p l 8 8 w hl (by decide) (by decide)) Tryz.call67 rfl rfl (tV (Val.field 1 rfl fo_37_1 rfl) rfl (At.store (i := 0) Tryz.sizeOf34 rfl rfl rfl rfl (by first | decide | simp) ?_)))
 simp only [sc0, scS]
 refine tE (tR ?_)
 refine tV (Val.loadAll (i := 2) Tryz.isAgg39 Tryz.sizeOf39 rfl rfl (by rw [List.length_map]; exact hl)) rfl (At.callP (fun w hw => numR_p l 16 4 w hl (by decide) (by decide)) Tryz.call67 rfl rfl (tA rfl rfl (tE (tR ?_))))
 refine tV (Val.loadAll (i := 2) Tryz.isAgg39 Tryz.sizeOf39 rfl rfl (by rw [List.length_map]; exact hl)) rfl (At.callP (fun w hw => numR_p l 20 4 w hl (by decide) (by decide)) Tryz.call67 rfl rfl (tA rfl rfl (tE (tR ?_))))
 refine tV (Val.loadAll (i := 2) Tryz.isAgg39 Tryz.sizeOf39 rfl rfl (by rw [List.length_map]; exact hl)) rfl (At.callP (fun w hw => numR_p l 24 4 w hl (by decide) (by decide)) Tryz.call67 rfl rfl (tA rfl rfl (tE (tR ?_))))
 refine tV (Val.loadAll (i := 2) Tryz.isAgg39 Tryz.sizeOf39 rfl rfl (by rw [List.length_map]; exact hl)) rfl (At.callP (fun w hw => numR_p l 28 4 w hl (by decide) (by decide)) Tryz.call67 rfl rfl (tA rfl rfl (tE (tR (tM rfl rfl ?_)))))
 first | refine tV (Val.toI Tryz.underlying34 Tryz.underlying3 rfl (by omega) (by omega)) rfl ?_ | refine tV (Val.conv Tryz.underlying34 Tryz.underlying3 rfl) rfl ?_
 refine tV (Val.field 3 rfl fo_37_3 rfl) rfl (At.store (i := 0) Tryz.sizeOf3 rfl rfl rfl rfl (by first | decide | simp) ?_)
 simp only [sc0, scS]
 refine tE (tR (tM rfl rfl ?_))
 first | refine tV (Val.toI Tryz.underlying34 Tryz.underlying3 rfl (by omega) (by omega)) rfl ?_ | refine tV (Val.conv Tryz.underlying34 Tryz.underlying3 rfl) rfl ?_
 refine tV (Val.field 4 rfl fo_37_4 rfl) rfl (At.store (i := 0) Tryz.sizeOf3 rfl rfl rfl rfl (by first | decide | simp) ?_)
 simp only [sc0, scS]
 refine tE (tR (tM rfl rfl ?_))
 first | refine tV (Val.toI Tryz.underlying34 Tryz.underlying3 rfl (by omega) (by omega)) rfl ?_ | refine tV (Val.conv Tryz.underlying34 Tryz.underlying3 rfl) rfl ?_
 refine tV (Val.field 5 rfl fo_37_5 rfl) rfl (At.store (i := 0) Tryz.sizeOf3 rfl rfl rfl rfl (by first | decide | simp) ?_)
 simp only [sc0, scS]
 refine tE ?_
 refine At.join (σ := Unit) (fun _ => True) (fun _ => [(1, .pointer (some ⟨b1, 0, none⟩)), (2, .pointer (some ⟨b2, 0, none⟩)), (4, .pointer (some ⟨b3, 0, none⟩))]) (fun _ => [blk b3 37 ([.int .i64 (num l 0 1 : Nat), .int .u64 (num l 8 8 : Nat), .int .i64 (entO l), .int .i64 (num l 20 4 : Nat), .int .i64 (num l 24 4 : Nat), .int .i64 (num l 28 4 : Nat), .int .i64 (entI l), .string ⟨#[]⟩]), blk b2 37 ([.int .i64 0, .int .u64 0, .int .i64 0, .int .i64 0, .int .i64 0, .int .i64 0, .int .i64 0, .string ⟨#[]⟩]), blk b1 39 (l.map bv)]) ?_ ?_
 ·refine tR (tV (Val.field 0 rfl fo_37_0 rfl) rfl (tV (Val.load (i := 0) Tryz.isAgg3 rfl rfl rfl) rfl (tV (Val.bin rfl rfl rfl) rfl (tE ?_))))
  refine At.cond rfl (fun h4 => ?_) (fun h4 => ?_)
  ·try simp only [vN_T, vN_F, nmE_T, nmE_F, wI_T, wI_F, data_T, data_F, ino_T, ino_F, notT, notF, bneT, bneF, beqT, beqF, decT, decF] at h4
   refine At.region (tM rfl rfl ?_)
   first | refine tV (Val.toI Tryz.underlying34 Tryz.underlying3 rfl (by omega) (by omega)) rfl ?_ | refine tV (Val.conv Tryz.underlying34 Tryz.underlying3 rfl) rfl ?_
   refine tV (Val.field 6 rfl fo_37_6 rfl) rfl (At.store (i := 0) Tryz.sizeOf3 rfl rfl rfl rfl (by first | decide | simp) ?_)
   simp only [sc0, scS]
   refine tE ?_
   exact At.meets () trivial (Sub.cons rfl (Sub.cons rfl (Sub.cons rfl Sub.nil))) (by first | (rw [entO_3 (l := l) (by omega), entI_3 (l := l) (by omega)]; exact List.Perm.refl _) | (rw [entO_n (l := l) (by omega), entI_n (l := l) (by omega)]; exact List.Perm.refl _) | (rw [entO_3 (l := l) (by omega), entI_3 (l := l) (by omega)]) | (rw [entO_n (l := l) (by omega), entI_n (l := l) (by omega)]))
  ·try simp only [vN_T, vN_F, nmE_T, nmE_F, wI_T, wI_F, data_T, data_F, ino_T, ino_F, notT, notF, bneT, bneF, beqT, beqF, decT, decF] at h4
   refine At.region (tM rfl rfl ?_)
   first | refine tV (Val.toI Tryz.underlying34 Tryz.underlying3 rfl (by omega) (by omega)) rfl ?_ | refine tV (Val.conv Tryz.underlying34 Tryz.underlying3 rfl) rfl ?_
   refine tV (Val.field 2 rfl fo_37_2 rfl) rfl (At.store (i := 0) Tryz.sizeOf3 rfl rfl rfl rfl (by first | decide | simp) ?_)
   simp only [sc0, scS]
   refine tE ?_
   exact At.meets () trivial (Sub.cons rfl (Sub.cons rfl (Sub.cons rfl Sub.nil))) (by first | (rw [entO_3 (l := l) (by omega), entI_3 (l := l) (by omega)]; exact List.Perm.refl _) | (rw [entO_n (l := l) (by omega), entI_n (l := l) (by omega)]; exact List.Perm.refl _) | (rw [entO_3 (l := l) (by omega), entI_3 (l := l) (by omega)]) | (rw [entO_n (l := l) (by omega), entI_n (l := l) (by omega)]))
 ·intro _ hs
  refine At.seq (tR (tV (Val.indexArr 1 rfl Tryz.underlying39 Tryz.sizeOf5 rfl rfl (by decide) (by decide)) rfl ?_))
  refine tV (Val.load (i := 2) (v := bv u1) Tryz.isAgg5 rfl rfl (by rw [List.getElem?_map, hu1]; rfl)) rfl ?_
  refine tV (Val.bin rfl rfl rfl) rfl (tE ?_)
  refine At.cond rfl (fun h5 => ?_) (fun h5 => ?_)
  ·try simp only [vN_T, vN_F, nmE_T, nmE_F, wI_T, wI_F, data_T, data_F, ino_T, ino_F, notT, notF, bneT, bneF, beqT, beqF, decT, decF] at h5
   have hno : ¬ OkE l := fun h => by have := h.1; omega
   refine tR ?_
   refine tV (Val.build (fun a ha => by simp only [List.map_toArray, List.map_cons, List.map_nil] <;> rfl) (bld_37_)) rfl (At.storeAll (i := 1) Tryz.sizeOf37 rfl rfl rfl (by simp [Value.oneCell']) rfl rfl ?_)
   simp only [sc0, scS]
   refine tA rfl rfl (tE (At.retC (At.thenR (At.ret2 (.inl rfl) rfl rfl (ResOf.all (i := 1) Tryz.isAgg37 Tryz.sizeOf37 rfl rfl rfl) rfl (fun w hw => ?_)))))
   first | exact ⟨by rw [openEnt_no hno]; rfl, hw.mod⟩ | exact ⟨by rw [openEnt_no (fun h => by have h2 := hline.2 h.2.2; simp_all)]; rfl, hw.mod⟩ | exact ⟨by rw [openEnt_yes ⟨hn28, hg, hline.1 (by simp_all)⟩]; rfl, hw.mod⟩
  ·try simp only [vN_T, vN_F, nmE_T, nmE_F, wI_T, wI_F, data_T, data_F, ino_T, ino_F, notT, notF, bneT, bneF, beqT, beqF, decT, decF] at h5
   have hn28 : num l 1 1 ≤ 28 := by omega
   have hNs := entN_size hl hn28
   have hline := entL_line hl hn28
   refine At.skipC (At.thenN (tR (tV (Val.indexArr 1 rfl Tryz.underlying39 Tryz.sizeOf5 rfl rfl (by decide) (by decide)) rfl ?_)))
   refine tV (Val.load (i := 2) (v := bv u1) Tryz.isAgg5 rfl rfl (by rw [List.getElem?_map, hu1]; rfl)) rfl ?_
   first | refine tV (Val.toI Tryz.underlying5 Tryz.underlying3 rfl (by omega) (by omega)) rfl ?_ | refine tV (Val.conv Tryz.underlying5 Tryz.underlying3 rfl) rfl ?_
   first | refine tV (Val.addI rfl rfl (by omega) (by omega)) rfl ?_ | refine tV (Val.bin rfl rfl rfl) rfl ?_
   refine tV (Val.cutArr 32 (32 + num l 1 1) 32 (num l 1 1) 32 Tryz.underlying39 Tryz.sizeOf5 rfl ⟨_, _, rfl, by omega, by omega⟩ ⟨_, _, rfl, by omega, by omega⟩ (by omega) (by omega) rfl (by omega) rfl) rfl ?_
   refine tV (Val.strOf (l := (l.drop 32).take (num l 1 1)) Tryz.underlying45 Tryz.underlying5 Tryz.underlying9 rfl (by rw [List.length_take, List.length_drop]; omega) (fun w hw => by have := cut_bytes (c := 64) (at_ := 32) (n := num l 1 1) ((hw.blk (i := 2) rfl).bytes') (by omega) (by omega); simpa using this)) rfl ?_
   rw [show (ByteArray.mk ((l.drop 32).take (num l 1 1)).toArray) = entN l from rfl]
   refine tV (Val.field 7 rfl fo_37_7 rfl) rfl (At.store (i := 0) Tryz.sizeOf9 rfl rfl rfl rfl (by first | decide | simp) ?_)
   simp only [sc0, scS]
   refine tE (tR (tV (Val.loadAll (i := 0) Tryz.isAgg37 Tryz.sizeOf37 rfl rfl rfl) rfl (At.callP (fun w hw => packEntR_p _ _ _ _ _ _ _ (entN l) w (by omega) (by omega) (by omega)) Tryz.call32 rfl rfl ?_)))
   by_cases hg : GoodE (num l 0 1 : Nat) (num l 8 8 : Nat) (entO l) (num l 20 4 : Nat) (num l 24 4 : Nat) (num l 28 4 : Nat) (entI l) (entN l)
   ·rw [packEnt_yes hg]
    refine tM rfl rfl (tV (Val.extract rfl rfl) rfl (tV (Val.extract rfl rfl) rfl (At.alloc zero_39 zc_39 rfl (fun b6 => ?_))))
    refine At.storeAll (i := 0) Tryz.sizeOf39 rfl rfl (lineV_length (by rw [entB_length, size_len]; omega)) (by simp [Value.oneCell']) rfl (by simp) ?_
    simp only [sc0, scS]
    refine tA rfl rfl (tE (At.seq (tR (tM rfl rfl (tV (Val.bin rfl rfl rfl) rfl (tM rfl rfl (At.yes rfl rfl ?_)))))))
    refine tV (Val.loadAll (i := 0) Tryz.isAgg39 Tryz.sizeOf39 rfl rfl (lineV_length (by rw [entB_length, size_len]; omega))) rfl (At.yes rfl rfl ?_)
    refine tV (Val.loadAll (i := 3) Tryz.isAgg39 Tryz.sizeOf39 rfl rfl (by rw [List.length_map]; exact hl)) rfl (At.yes rfl rfl ?_)
    refine tV (Val.neAgg Tryz.eqGuardType39 (fun w => run_equal_bytes Tryz.underlying39 Tryz.underlying5 Tryz.isAgg5 Tryz.sizeOf5 _ _ (lineL_length (by rw [entB_length, size_len]; omega)) hl w) rfl rfl) rfl (tV (Val.pickF rfl rfl) rfl (tE ?_))
    refine At.cond rfl (fun h7 => ?_) (fun h7 => ?_)
    ·try simp only [vN_T, vN_F, nmE_T, nmE_F, wI_T, wI_F, data_T, data_F, ino_T, ino_F, notT, notF, bneT, bneF, beqT, beqF, decT, decF] at h7
     refine tR ?_
     refine tV (Val.build (fun a ha => by simp only [List.map_toArray, List.map_cons, List.map_nil] <;> rfl) (bld_37_)) rfl (At.storeAll (i := 2) Tryz.sizeOf37 rfl rfl rfl (by simp [Value.oneCell']) rfl rfl ?_)
     simp only [sc0, scS]
     refine tA rfl rfl (tE (At.retC (At.thenR (At.ret2 (.inl rfl) rfl rfl (ResOf.all (i := 2) Tryz.isAgg37 Tryz.sizeOf37 rfl rfl rfl) rfl (fun w hw => ?_)))))
     first | exact ⟨by rw [openEnt_no hno]; rfl, hw.mod⟩ | exact ⟨by rw [openEnt_no (fun h => by have h2 := hline.2 h.2.2; simp_all)]; rfl, hw.mod⟩ | exact ⟨by rw [openEnt_yes ⟨hn28, hg, hline.1 (by simp_all)⟩]; rfl, hw.mod⟩
    ·try simp only [vN_T, vN_F, nmE_T, nmE_F, wI_T, wI_F, data_T, data_F, ino_T, ino_F, notT, notF, bneT, bneF, beqT, beqF, decT, decF] at h7
     refine At.skipC (At.thenN (tR (tV (Val.loadAll (i := 1) Tryz.isAgg37 Tryz.sizeOf37 rfl rfl rfl) rfl (At.storeAll (i := 2) Tryz.sizeOf37 rfl rfl rfl (by simp [Value.oneCell']) rfl rfl ?_))))
     simp only [sc0, scS]
     refine tA rfl rfl (tE (At.retC (At.ret2 (.inl rfl) rfl rfl (ResOf.all (i := 2) Tryz.isAgg37 Tryz.sizeOf37 rfl rfl rfl) rfl (fun w hw => ?_))))
     first | exact ⟨by rw [openEnt_no hno]; rfl, hw.mod⟩ | exact ⟨by rw [openEnt_no (fun h => by have h2 := hline.2 h.2.2; simp_all)]; rfl, hw.mod⟩ | exact ⟨by rw [openEnt_yes ⟨hn28, hg, hline.1 (by simp_all)⟩]; rfl, hw.mod⟩
   ·rw [packEnt_no hg]
    have hno : ¬ OkE l := fun h => hg h.2.1
    refine tM rfl rfl (tV (Val.extract rfl rfl) rfl (tV (Val.extract rfl rfl) rfl (At.alloc zero_39 zc_39 rfl (fun b8 => (At.storeAll (i := 0) Tryz.sizeOf39 rfl rfl (by simp [zs]) (by simp [Value.oneCell']) rfl (by simp) ?_)))))
    simp only [sc0, scS]
    refine tA rfl rfl (tE (At.seq (tR (tM rfl rfl (tV (Val.bin rfl rfl rfl) rfl (tM rfl rfl (At.no rfl rfl rfl rfl (At.no rfl rfl rfl rfl (At.no rfl rfl rfl rfl (tV (Val.pickT rfl rfl) rfl (tE (At.condT rfl (tR ?_)))))))))))))
    refine tV (Val.build (fun a ha => by simp only [List.map_toArray, List.map_cons, List.map_nil] <;> rfl) (bld_37_)) rfl (At.storeAll (i := 2) Tryz.sizeOf37 rfl rfl rfl (by simp [Value.oneCell']) rfl rfl ?_)
    simp only [sc0, scS]
    refine tA rfl rfl (tE (At.retC (At.thenR (At.ret2 (.inl rfl) rfl rfl (ResOf.all (i := 2) Tryz.isAgg37 Tryz.sizeOf37 rfl rfl rfl) rfl (fun w hw => ?_)))))
    first | exact ⟨by rw [openEnt_no hno]; rfl, hw.mod⟩ | exact ⟨by rw [openEnt_no (fun h => by have h2 := hline.2 h.2.2; simp_all)]; rfl, hw.mod⟩ | exact ⟨by rw [openEnt_yes ⟨hn28, hg, hline.1 (by simp_all)⟩]; rfl, hw.mod⟩
end Go.Proofs.YthdmlpjhcalliaaGreatDoor
namespace Go.Proofs.YthdmlpjhcalliaaGreatDoor
open Go Go.Wk
theorem packEnt_shape (k q o c p z i : Int) (s : ByteArray) : ∃ (L : List UInt8) (e : Int), L.length = 64 ∧ packEntV k q o c p z i s = .tuple #[.agg (L.map bv).toArray, .int .i64 e] := by
  by_cases h : GoodE k q o c p z i s
  · exact ⟨_, _, lineL_length (by have := h.size; rw [entB_length, size_len]; omega), packEnt_yes h⟩
  · exact ⟨_, _, zs_length 64, packEnt_no h⟩
theorem openEnt_shape (l : List UInt8) : ∃ (a0 a1 a2 a3 a4 a5 a6 : Int) (t : ByteArray) (e : Int), openEntV l = .tuple #[.agg #[.int .i64 a0, .int .u64 a1, .int .i64 a2, .int .i64 a3, .int .i64 a4, .int .i64 a5, .int .i64 a6, .string t], .int .i64 e] := by
  by_cases h : OkE l
  · exact ⟨_, _, _, _, _, _, _, _, _, openEnt_yes h⟩
  · exact ⟨_, _, _, _, _, _, _, _, _, openEnt_no h⟩
theorem lawEntries_p (k q o c p z i : Int) (s : ByteArray) (l : List UInt8) (w : World) (ht : Tab w) (hl : l.length = 64) (hlen : s.size ≤ 9223372036854775807) (hq : 0 ≤ q) (hpp : -9223372036854775808 ≤ p ∧ p ≤ 9223372036854775807) :
    PureC Tryz.prog 10 [.agg #[.int .i64 k, .int .u64 q, .int .i64 o, .int .i64 c, .int .i64 p, .int .i64 z, .int .i64 i, .string s], .agg (l.map bv).toArray] (.bool true) w := by
 refine enter0 Tryz.func10 rfl Tryz.ntmps10 rfl ?_
 obtain ⟨L, e, hL, hP⟩ := packEnt_shape k q o c p z i s
 obtain ⟨a0, a1, a2, a3, a4, a5, a6, t, f, hO⟩ := openEnt_shape l
 simp only [envOf]
 refine tR (At.box rfl rfl rfl (fun b1 => (At.box rfl rfl rfl (fun bl => (tA rfl rfl (tE (tR (tV (Val.loadAll (i := 1) Tryz.isAgg37 Tryz.sizeOf37 rfl rfl rfl) rfl ?_))))))))
 refine At.callP (fun w hw => (by have := packEnt_p k q o c p z i s w (ht.mod hw.mod) hlen hq; rwa [hP] at this)) Tryz.call31 rfl rfl (tM rfl rfl (tV (Val.extract rfl rfl) rfl (tV (Val.extract rfl rfl) rfl (At.alloc zero_39 zc_39 rfl (fun b2 => ?_)))))
 refine At.storeAll (i := 0) Tryz.sizeOf39 rfl rfl (by rw [List.length_map]; exact hL) (by simp [Value.oneCell']) rfl (by simp) ?_
 simp only [sc0, scS]
 refine tA rfl rfl (tE (tR (tV (Val.loadAll (i := 2) Tryz.isAgg37 Tryz.sizeOf37 rfl rfl rfl) rfl ?_)))
 refine At.callP (fun w hw => (by have := packEntR_p k q o c p z i s w hlen hq hpp; rwa [hP] at this)) Tryz.call32 rfl rfl (tM rfl rfl (tV (Val.extract rfl rfl) rfl (tV (Val.extract rfl rfl) rfl (At.alloc zero_39 zc_39 rfl (fun b3 => ?_)))))
 refine At.storeAll (i := 0) Tryz.sizeOf39 rfl rfl (by rw [List.length_map]; exact hL) (by simp [Value.oneCell']) rfl (by simp) ?_
 simp only [sc0, scS]
 refine tA rfl rfl (tE (At.seq (tR ?_)))
 refine tV (Val.loadAll (i := 1) Tryz.isAgg39 Tryz.sizeOf39 rfl rfl (by rw [List.length_map]; exact hL)) rfl ?_
 refine tV (Val.loadAll (i := 0) Tryz.isAgg39 Tryz.sizeOf39 rfl rfl (by rw [List.length_map]; exact hL)) rfl (tV (Val.neAgg (b := true) Tryz.eqGuardType39 (fun w => by simpa using run_equal_bytes Tryz.underlying39 Tryz.underlying5 Tryz.isAgg5 Tryz.sizeOf5 L L hL hL w) rfl rfl) rfl (tM rfl rfl (At.yes rfl rfl (tM rfl rfl (At.yes rfl rfl (tM rfl rfl (At.yes rfl rfl (tV (Val.bin rfl rfl rfl) rfl (tV (Val.pickF rfl rfl) rfl (tE ?_))))))))))
 refine At.cond rfl (fun h4 => ?_) (fun h4 => ?_)
 ·try simp only [vN_T, vN_F, nmE_T, nmE_F, wI_T, wI_F, data_T, data_F, ino_T, ino_F, notT, notF, bneT, bneF, beqT, beqF, decT, decF] at h4
  exact absurd rfl h4
 ·try simp only [vN_T, vN_F, nmE_T, nmE_F, wI_T, wI_F, data_T, data_F, ino_T, ino_F, notT, notF, bneT, bneF, beqT, beqF, decT, decF] at h4
  refine At.skipC (At.thenN (tR ?_))
  refine tV (Val.loadAll (i := 2) Tryz.isAgg39 Tryz.sizeOf39 rfl rfl (by rw [List.length_map]; exact hl)) rfl ?_
  refine At.callP (fun w hw => (by have := openEnt_p l w (ht.mod hw.mod) hl; rwa [hO] at this)) Tryz.call33 rfl rfl (tM rfl rfl (tV (Val.extract rfl rfl) rfl (tV (Val.extract rfl rfl) rfl (At.alloc Tryz.zeroValue37 rfl rfl (fun b5 => (At.storeAll (i := 0) Tryz.sizeOf37 rfl rfl rfl (by simp [Value.oneCell']) rfl rfl ?_))))))
  simp only [sc0, scS]
  refine tA rfl rfl (tE (tR ?_))
  refine tV (Val.loadAll (i := 3) Tryz.isAgg39 Tryz.sizeOf39 rfl rfl (by rw [List.length_map]; exact hl)) rfl ?_
  refine At.callP (fun w hw => (by have := openEntR_p l w hl; rwa [hO] at this)) Tryz.call34 rfl rfl (tM rfl rfl (tV (Val.extract rfl rfl) rfl (tV (Val.extract rfl rfl) rfl (At.alloc Tryz.zeroValue37 rfl rfl (fun b6 => (At.storeAll (i := 0) Tryz.sizeOf37 rfl rfl rfl (by simp [Value.oneCell']) rfl rfl ?_))))))
  simp only [sc0, scS]
  refine tA rfl rfl (tE (tR (tV (Val.loadAll (i := 1) Tryz.isAgg37 Tryz.sizeOf37 rfl rfl rfl) rfl (tV (Val.loadAll (i := 0) Tryz.isAgg37 Tryz.sizeOf37 rfl rfl rfl) rfl (tV (Val.eqAgg (b := true) Tryz.eqGuardType37 (fun w => by simpa using eq_37 a0 a1 a2 a3 a4 a5 a6 t a0 a1 a2 a3 a4 a5 a6 t w) rfl rfl) rfl (tM rfl rfl (At.yes rfl rfl (tM rfl rfl (At.yes rfl rfl (tM rfl rfl (At.yes rfl rfl (tV (Val.bin rfl rfl rfl) rfl (tV (Val.pickT rfl rfl) rfl (tA rfl rfl (tE (At.retC (At.ret1 (.inl rfl) rfl rfl rfl (fun w hw => ?_))))))))))))))))))
  exact ⟨retB (by simp), hw.mod⟩
end Go.Proofs.YthdmlpjhcalliaaGreatDoor
namespace Go.Proofs.YthdmlpjhcalliaaGreatDoor
open Go Go.Wk
theorem lawValid_p (s : ByteArray) (w : World) (hlen : s.size ≤ 9223372036854775807) :
    PureC Tryz.prog 12 [.string s] (.bool true) w := by
 refine enter0 Tryz.func12 rfl Tryz.ntmps12 rfl ?_
 simp only [envOf]
 refine tR (tA rfl rfl (tE (tR (tM rfl rfl (At.callP (fun w hw => validI_p _ w hlen) Tryz.call39 rfl rfl (tA rfl rfl (tE (tR (tM rfl rfl (tM rfl rfl (At.callP (fun w hw => validR_p _ w hlen) Tryz.call40 rfl rfl (tV (Val.eqB Tryz.underlying4 rfl rfl) rfl (tA rfl rfl (tE (At.retC (At.ret1 (.inl rfl) rfl rfl rfl (fun w hw => ?_)))))))))))))))))
 exact ⟨by simp, hw.mod⟩
end Go.Proofs.YthdmlpjhcalliaaGreatDoor
namespace Go.Proofs.YthdmlpjhcalliaaGreatDoor
open Go Go.Wk
theorem Rd.off {v : Value} {w : World} {sz n : Nat} {xs : List Value} (h : Rd w v sz n xs) {S : Nat → Prop} (hS : ∀ b, S b → w.heap.size ≤ b) : Off v xs S := fun hne b o s n' c hv hb => by
  obtain ⟨A, c', rfl, h2, _⟩ := h
  have hl : 0 < xs.length := List.length_pos_iff.2 hne
  obtain ⟨b', o', e, hc⟩ := h2 0 _ (List.getElem?_eq_getElem hl)
  simp only [Value.slice.injEq] at hv
  rw [hv.1] at e
  simp only [Option.some.injEq, Addr.mk.injEq] at e
  obtain ⟨rfl, _, _⟩ := e
  have := block_lt_of_cell hc
  have := hS _ hb
  simp only at *; omega
theorem Rep.newFoot {w0 w : World} {H : List Res} {r : Res} (hw : Rep w0 (fun _ => False) H w) (hr : r ∈ H) : ∀ b, feet [r] b → w0.heap.size ≤ b := fun b ⟨q, hq, hb⟩ => by
  rw [List.mem_singleton.1 hq] at hb
  exact (hw.mine r hr b hb).elim (fun h => h) (fun h => h.elim)
theorem Rep.off0 {w0 w : World} {S : Nat → Prop} {H : List Res} {i : Nat} {r : Res} (hw : Rep w0 S H w) (ht : Tab w0) (hf : ¬ S 0) (hi : H[i]? = some r) : ¬ feet [r] 0 := fun ⟨q, hq, hb⟩ => by
  rw [List.mem_singleton.1 hq] at hb
  rcases hw.mine r (List.mem_of_getElem? hi) 0 hb with h | h
  · have := (block_lt_of_cell (ht 0 (by decide)) : 0 < w0.heap.size); omega
  · exact hf h
theorem opL_X (o : OpL) : ((opL o).drop 20).take 64 = o.L.1.map bv := by
  have ha : (opA o).length = 20 := rfl
  unfold opL
  rw [List.drop_append_of_le_length (by omega), ← ha, List.drop_length, List.nil_append, List.take_left' (by rw [List.length_map, o.L.2])]
theorem opL_H (o : OpL) : ((opL o).drop 88).take 2 = [.int .i64 o.hn, .int .i64 o.ho] := by
  apply List.ext_getElem?
  intro j
  rw [List.getElem?_take]
  split
  · rename_i hj
    rw [List.getElem?_drop]
    match j, hj with
    | 0, _ => exact opL_hi o.L.2 (j := 4) rfl
    | 1, _ => exact opL_hi o.L.2 (j := 5) rfl
  · rename_i hj; rw [List.getElem?_eq_none (by simpa using hj)]
theorem op91 (o : OpL) : (opL o).length = 91 := opL_len o.L.2
def RdOps (w : World) (v : Value) (L : List OpL) : Prop := Rd w v 91 L.length (L.flatMap opL) ∧ ∀ o ∈ L, OpOk w o
def emptyB : Bk := ⟨.slice none 0 0, .slice none 0 0, .slice none 0 0, .slice none 0 0, .slice none 0 0, .slice none 0 0, [], [], [], []⟩
theorem Rep.bookNew {w0 w : World} {Z : Nat → Prop} {F : List Res} {k : Nat} (h : Rep w0 Z (blk k 28 [.slice none 0 0, .slice none 0 0, .slice none 0 0, .slice none 0 0, .slice none 0 0, .slice none 0 0] :: F) w) : Rep w0 Z (bookR k emptyB :: F) w := by
  have h1 := ((((((h.readsNil).nilRow tSP 1).nilRow tSP 1).nilRow tSU 1).nilRow tSU 1).nilRow tSB 1).nilRow tSB 1
  have h2 := h1.perm (List.perm_middle (l₁ := [_, _, _, _, _, _, _]))
  exact Rep.shutB (S := emptyB) ⟨by decide, (fun i x h => by cases h), (fun i x h => by cases h), (fun i x h => by cases h)⟩ h2
theorem At.bookNew {Γ : Ctx} {E : Env} {H : List Res} {φ : Act → World → Prop} {k : Nat} (c : At Γ E (bookR k emptyB :: H) φ) : At Γ E (blk k 28 [.slice none 0 0, .slice none 0 0, .slice none 0 0, .slice none 0 0, .slice none 0 0, .slice none 0 0] :: H) φ := fun a w ha hw => c a w ha (Rep.bookNew hw)
theorem plays_g (k : Nat) (S : Bk) (o : OpL) (w : World) (htab : Tab w) (h0 : ¬ feet [bookR k S] 0) (hop : OpOk w o) (hoff : OpOff o (feet [bookR k S])) (hc : S.cnt < 200) (hd : (bookR k S).holds w) :
    GU Tryz.prog 4 [.pointer (some ⟨k, 0, none⟩), .agg (opL o).toArray] (bookR k S) (fun _ => .bool true) (fun y => bookR k y) (fun y => S.cnt ≤ y.cnt ∧ y.cnt ≤ S.cnt + 1) w := by
 refine enter (feet [bookR k S]) [bookR k S] Tryz.func4 rfl Tryz.ntmps4 rfl (Rep.one hd) ?_
 have hbl := hop.bl
 have hul := hop.ul
 have hsl := hop.sl
 simp only [envOf]
 refine tR (At.box (vs := opL o) rfl rfl rfl (fun b1 => (tA rfl rfl (tE (At.seq (tR (tV (Val.field 0 rfl fo_49_0 rfl) rfl (tV (Val.load (i := 0) Tryz.isAgg3 rfl rfl (opL_lo (j := 0) rfl)) rfl (tE (At.block (tR (tV (Val.bin rfl rfl rfl) rfl (tA rfl rfl (tE ?_))))))))))))))
 refine At.cond rfl (fun h2 => ?_) (fun h2 => ?_)
 ·try simp only [sB] at h2
  refine tR (tV (Val.field 2 rfl fo_49_2 rfl) rfl (tV (Val.loadPart (i := 0) (vs := [.int .i64 o.sp, .int .i64 o.si, .int .i64 o.sc]) Tryz.isAgg31 Tryz.sizeOf31 rfl rfl (rfl) rfl) rfl (tV (Val.field 1 rfl fo_49_1 rfl) rfl (tV (Val.load (i := 0) Tryz.isAgg3 rfl rfl (opL_lo (j := 1) rfl)) rfl (At.callP (fun w hw => lawFits_p o.sp o.si o.sc o.ino w (tab_modS htab hw.mod h0) hop.sp) Tryz.call6 rfl rfl (tA rfl rfl (tE (At.retC (At.blkR (At.thenR (At.ret1 (.inl rfl) rfl rfl rfl (fun w hw => ?_))))))))))))
  exact ⟨S, rfl, by omega, (hw.drop (List.singleton_sublist.2 (List.mem_of_getElem? (i := 1) rfl)))⟩
 ·try simp only [sB] at h2
  refine tR (tV (Val.bin rfl rfl rfl) rfl (tA rfl rfl (tE ?_)))
  refine At.cond rfl (fun h3 => ?_) (fun h3 => ?_)
  ·try simp only [sB] at h3
   refine tR (tV (Val.field 20 rfl fo_49_6 rfl) rfl (tV (Val.loadPart (i := 0) (vs := (o.L.1.map bv)) Tryz.isAgg39 Tryz.sizeOf39 rfl rfl (opL_X o) (by rw [List.length_map, o.L.2])) rfl (At.callP (fun w hw => lawSupers_p o.L.1 w (tab_modS htab hw.mod h0) hop.l64) Tryz.call7 rfl rfl (tA rfl rfl (tE (At.retC (At.blkR (At.thenR (At.ret1 (.inl rfl) rfl rfl rfl (fun w hw => ?_))))))))))
   exact ⟨S, rfl, by omega, (hw.drop (List.singleton_sublist.2 (List.mem_of_getElem? (i := 1) rfl)))⟩
  ·try simp only [sB] at h3
   refine tR (tV (Val.bin rfl rfl rfl) rfl (tA rfl rfl (tE ?_)))
   refine At.cond rfl (fun h4 => ?_) (fun h4 => ?_)
   ·try simp only [sB] at h4
    refine tR (tV (Val.field 87 rfl fo_49_9 rfl) rfl (tV (Val.load (i := 0) Tryz.isAgg45 rfl rfl (opL_hi hop.l64 (j := 3) rfl)) rfl (At.callP (fun w hw => lawFinds_p _ o.lB w (tab_modS htab hw.mod h0) (hop.b.keep hw hoff.b) (by omega)) Tryz.call8 rfl rfl (tA rfl rfl (tE (At.retC (At.blkR (At.thenR (At.ret1 (.inl rfl) rfl rfl rfl (fun w hw => ?_))))))))))
    exact ⟨S, rfl, by omega, (hw.drop (List.singleton_sublist.2 (List.mem_of_getElem? (i := 1) rfl)))⟩
   ·try simp only [sB] at h4
    refine At.seq (tR (tV (Val.bin rfl rfl rfl) rfl (tA rfl rfl (tE ?_))))
    refine At.cond rfl (fun h5 => ?_) (fun h5 => ?_)
    ·try simp only [sB] at h5
     refine At.skipC (At.thenN ?_)
     refine At.cond rfl (fun h6 => ?_) (fun h6 => ?_)
     ·try simp only [sB] at h6
      refine tR (tV (Val.field 1 rfl fo_49_1 rfl) rfl (tV (Val.load (i := 0) Tryz.isAgg3 rfl rfl (opL_lo (j := 1) rfl)) rfl (tV (Val.field 5 rfl fo_49_3 rfl) rfl (tV (Val.loadPart (i := 0) (vs := [.int .i64 o.sk, .int .i64 o.sl, .int .i64 o.sh, .int .i64 o.st]) Tryz.isAgg33 Tryz.sizeOf33 rfl rfl (rfl) rfl) rfl (tV (Val.field 9 rfl fo_49_4 rfl) rfl (tV (Val.loadPart (i := 0) (vs := [b64 o.w0, b64 o.w1, b64 o.w2]) Tryz.isAgg35 Tryz.sizeOf35 rfl rfl (rfl) rfl) rfl (At.callP (fun w hw => lawSlots_p o.ino o.sk o.sl o.sh o.st o.w0 o.w1 o.w2 w (tab_modS htab hw.mod h0) hop.st) Tryz.call9 rfl rfl (tA rfl rfl (tE (At.retC (At.blkR (At.thenR (At.ret1 (.inl rfl) rfl rfl rfl (fun w hw => ?_))))))))))))))
      exact ⟨S, rfl, by omega, (hw.drop (List.singleton_sublist.2 (List.mem_of_getElem? (i := 1) rfl)))⟩
     ·try simp only [sB] at h6
      refine At.seq (tR (tV (Val.bin rfl rfl rfl) rfl (tA rfl rfl (tE ?_))))
      refine At.cond rfl (fun h7 => ?_) (fun h7 => ?_)
      ·try simp only [sB] at h7
       refine At.skipC (At.thenN ?_)
       refine At.cond rfl (fun h8 => ?_) (fun h8 => ?_)
       ·try simp only [sB] at h8
        refine tR (tV (Val.field 12 rfl fo_49_5 rfl) rfl (tV (Val.loadPart (i := 0) (vs := [.int .i64 o.ek, b64 o.eq, .int .i64 o.eo, .int .i64 o.ec, .int .i64 o.ep, .int .i64 o.ez, .int .i64 o.ei, .string o.es]) Tryz.isAgg37 Tryz.sizeOf37 rfl rfl (rfl) rfl) rfl (tV (Val.field 20 rfl fo_49_6 rfl) rfl (tV (Val.loadPart (i := 0) (vs := (o.L.1.map bv)) Tryz.isAgg39 Tryz.sizeOf39 rfl rfl (opL_X o) (by rw [List.length_map, o.L.2])) rfl (At.callP (fun w hw => lawEntries_p o.ek (o.eq.toNat : Int) o.eo o.ec o.ep o.ez o.ei o.es o.L.1 w (tab_modS htab hw.mod h0) hop.l64 hop.es (by omega) hop.ep) Tryz.call10 rfl rfl (tA rfl rfl (tE (At.retC (At.blkR (At.thenR (At.ret1 (.inl rfl) rfl rfl rfl (fun w hw => ?_))))))))))))
        exact ⟨S, rfl, by omega, (hw.drop (List.singleton_sublist.2 (List.mem_of_getElem? (i := 1) rfl)))⟩
       ·try simp only [sB] at h8
        refine tR (tV (Val.bin rfl rfl rfl) rfl (tA rfl rfl (tE ?_)))
        refine At.cond rfl (fun h9 => ?_) (fun h9 => ?_)
        ·try simp only [sB] at h9
         refine tR (tV (Val.field 1 rfl fo_49_1 rfl) rfl (tV (Val.load (i := 0) Tryz.isAgg3 rfl rfl (opL_lo (j := 1) rfl)) rfl (tV (Val.field 88 rfl fo_49_10 rfl) rfl (tV (Val.loadPart (i := 0) (vs := [.int .i64 o.hn, .int .i64 o.ho]) Tryz.isAgg47 Tryz.sizeOf47 rfl rfl (opL_H o) rfl) rfl (tV (Val.field 9 rfl fo_49_4 rfl) rfl (tV (Val.indexArr 9 rfl Tryz.underlying35 Tryz.sizeOf34 rfl rfl (by decide) (by decide)) rfl (tV (Val.load (i := 0) Tryz.isAgg34 rfl rfl (opL_lo (j := 9) rfl)) rfl (tV (Val.field 9 rfl fo_49_4 rfl) rfl (tV (Val.indexArr 10 rfl Tryz.underlying35 Tryz.sizeOf34 rfl rfl (by decide) (by decide)) rfl (tV (Val.load (i := 0) Tryz.isAgg34 rfl rfl (opL_lo (j := 10) rfl)) rfl ?_))))))))))
         refine tV (Val.build (fun a ha => by simp only [List.map_toArray, List.map_cons, List.map_nil, ha.eval (x := (.tmp 50)) rfl, ha.eval (x := (.tmp 53)) rfl] <;> rfl) (bld_58_0_1 _ _ )) rfl (At.callP (fun w hw => lawHeaders_p o.ino o.hn o.ho o.w0 o.w1 w (tab_modS htab hw.mod h0)) Tryz.call11 rfl rfl (tA rfl rfl (tE (At.retC (At.blkR (At.thenR (At.ret1 (.inl rfl) rfl rfl rfl (fun w hw => ?_))))))))
         exact ⟨S, rfl, by omega, (hw.drop (List.singleton_sublist.2 (List.mem_of_getElem? (i := 1) rfl)))⟩
        ·try simp only [sB] at h9
         refine tR (tV (Val.bin rfl rfl rfl) rfl (tA rfl rfl (tE ?_)))
         refine At.cond rfl (fun h10 => ?_) (fun h10 => ?_)
         ·try simp only [sB] at h10
          refine tR (tV (Val.field 90 rfl fo_49_11 rfl) rfl (tV (Val.load (i := 0) Tryz.isAgg9 rfl rfl (opL_hi hop.l64 (j := 6) rfl)) rfl (At.callP (fun w hw => lawValid_p o.nm w hop.nm) Tryz.call12 rfl rfl (tA rfl rfl (tE (At.retC (At.blkR (At.thenR (At.ret1 (.inl rfl) rfl rfl rfl (fun w hw => ?_))))))))))
          exact ⟨S, rfl, by omega, (hw.drop (List.singleton_sublist.2 (List.mem_of_getElem? (i := 1) rfl)))⟩
         ·try simp only [sB] at h10
          refine At.skipC (At.blkN (At.thenN (tR (tM rfl rfl (tV (Val.loadAll (i := 0) Tryz.isAgg49 Tryz.sizeOf49 rfl rfl (opL_len hop.l64)) rfl (At.callG 1 rfl (fun w hw hr => lists_g k S o w (tab_modS htab hw.mod h0) h0 (hop.keep hw hoff) hoff hc hr) Tryz.call13 rfl rfl (fun y9 hy9 => ?_)))))))
          simp only [sc0, scS]
          refine tA rfl rfl (tE (At.retC (At.ret1 (.inl rfl) rfl rfl rfl (fun w hw => ?_))))
          exact ⟨y9, rfl, by omega, (hw.drop (List.singleton_sublist.2 (List.mem_of_getElem? (i := 1) rfl)))⟩
      ·try simp only [sB] at h7
       refine At.region (tV (Val.bin rfl rfl rfl) rfl (tA rfl rfl (tE ?_)))
       refine At.cond rfl (fun h11 => ?_) (fun h11 => ?_)
       ·try simp only [sB] at h11
        refine tR (tV (Val.field 12 rfl fo_49_5 rfl) rfl (tV (Val.loadPart (i := 0) (vs := [.int .i64 o.ek, b64 o.eq, .int .i64 o.eo, .int .i64 o.ec, .int .i64 o.ep, .int .i64 o.ez, .int .i64 o.ei, .string o.es]) Tryz.isAgg37 Tryz.sizeOf37 rfl rfl (rfl) rfl) rfl (tV (Val.field 20 rfl fo_49_6 rfl) rfl (tV (Val.loadPart (i := 0) (vs := (o.L.1.map bv)) Tryz.isAgg39 Tryz.sizeOf39 rfl rfl (opL_X o) (by rw [List.length_map, o.L.2])) rfl (At.callP (fun w hw => lawEntries_p o.ek (o.eq.toNat : Int) o.eo o.ec o.ep o.ez o.ei o.es o.L.1 w (tab_modS htab hw.mod h0) hop.l64 hop.es (by omega) hop.ep) Tryz.call10 rfl rfl (tA rfl rfl (tE (At.retC (At.blkR (At.thenR (At.ret1 (.inl rfl) rfl rfl rfl (fun w hw => ?_))))))))))))
        exact ⟨S, rfl, by omega, (hw.drop (List.singleton_sublist.2 (List.mem_of_getElem? (i := 1) rfl)))⟩
       ·try simp only [sB] at h11
        refine tR (tV (Val.bin rfl rfl rfl) rfl (tA rfl rfl (tE ?_)))
        refine At.cond rfl (fun h12 => ?_) (fun h12 => ?_)
        ·try simp only [sB] at h12
         refine tR (tV (Val.field 1 rfl fo_49_1 rfl) rfl (tV (Val.load (i := 0) Tryz.isAgg3 rfl rfl (opL_lo (j := 1) rfl)) rfl (tV (Val.field 88 rfl fo_49_10 rfl) rfl (tV (Val.loadPart (i := 0) (vs := [.int .i64 o.hn, .int .i64 o.ho]) Tryz.isAgg47 Tryz.sizeOf47 rfl rfl (opL_H o) rfl) rfl (tV (Val.field 9 rfl fo_49_4 rfl) rfl (tV (Val.indexArr 9 rfl Tryz.underlying35 Tryz.sizeOf34 rfl rfl (by decide) (by decide)) rfl (tV (Val.load (i := 0) Tryz.isAgg34 rfl rfl (opL_lo (j := 9) rfl)) rfl (tV (Val.field 9 rfl fo_49_4 rfl) rfl (tV (Val.indexArr 10 rfl Tryz.underlying35 Tryz.sizeOf34 rfl rfl (by decide) (by decide)) rfl (tV (Val.load (i := 0) Tryz.isAgg34 rfl rfl (opL_lo (j := 10) rfl)) rfl ?_))))))))))
         refine tV (Val.build (fun a ha => by simp only [List.map_toArray, List.map_cons, List.map_nil, ha.eval (x := (.tmp 50)) rfl, ha.eval (x := (.tmp 53)) rfl] <;> rfl) (bld_58_0_1 _ _ )) rfl (At.callP (fun w hw => lawHeaders_p o.ino o.hn o.ho o.w0 o.w1 w (tab_modS htab hw.mod h0)) Tryz.call11 rfl rfl (tA rfl rfl (tE (At.retC (At.blkR (At.thenR (At.ret1 (.inl rfl) rfl rfl rfl (fun w hw => ?_))))))))
         exact ⟨S, rfl, by omega, (hw.drop (List.singleton_sublist.2 (List.mem_of_getElem? (i := 1) rfl)))⟩
        ·try simp only [sB] at h12
         refine tR (tV (Val.bin rfl rfl rfl) rfl (tA rfl rfl (tE ?_)))
         refine At.cond rfl (fun h13 => ?_) (fun h13 => ?_)
         ·try simp only [sB] at h13
          refine tR (tV (Val.field 90 rfl fo_49_11 rfl) rfl (tV (Val.load (i := 0) Tryz.isAgg9 rfl rfl (opL_hi hop.l64 (j := 6) rfl)) rfl (At.callP (fun w hw => lawValid_p o.nm w hop.nm) Tryz.call12 rfl rfl (tA rfl rfl (tE (At.retC (At.blkR (At.thenR (At.ret1 (.inl rfl) rfl rfl rfl (fun w hw => ?_))))))))))
          exact ⟨S, rfl, by omega, (hw.drop (List.singleton_sublist.2 (List.mem_of_getElem? (i := 1) rfl)))⟩
         ·try simp only [sB] at h13
          refine At.skipC (At.blkN (At.thenN (tR (tM rfl rfl (tV (Val.loadAll (i := 0) Tryz.isAgg49 Tryz.sizeOf49 rfl rfl (opL_len hop.l64)) rfl (At.callG 1 rfl (fun w hw hr => lists_g k S o w (tab_modS htab hw.mod h0) h0 (hop.keep hw hoff) hoff hc hr) Tryz.call13 rfl rfl (fun y9 hy9 => ?_)))))))
          simp only [sc0, scS]
          refine tA rfl rfl (tE (At.retC (At.ret1 (.inl rfl) rfl rfl rfl (fun w hw => ?_))))
          exact ⟨y9, rfl, by omega, (hw.drop (List.singleton_sublist.2 (List.mem_of_getElem? (i := 1) rfl)))⟩
    ·try simp only [sB] at h5
     refine At.region (tV (Val.bin rfl rfl rfl) rfl (tA rfl rfl (tE ?_)))
     refine At.cond rfl (fun h14 => ?_) (fun h14 => ?_)
     ·try simp only [sB] at h14
      refine tR (tV (Val.field 1 rfl fo_49_1 rfl) rfl (tV (Val.load (i := 0) Tryz.isAgg3 rfl rfl (opL_lo (j := 1) rfl)) rfl (tV (Val.field 5 rfl fo_49_3 rfl) rfl (tV (Val.loadPart (i := 0) (vs := [.int .i64 o.sk, .int .i64 o.sl, .int .i64 o.sh, .int .i64 o.st]) Tryz.isAgg33 Tryz.sizeOf33 rfl rfl (rfl) rfl) rfl (tV (Val.field 9 rfl fo_49_4 rfl) rfl (tV (Val.loadPart (i := 0) (vs := [b64 o.w0, b64 o.w1, b64 o.w2]) Tryz.isAgg35 Tryz.sizeOf35 rfl rfl (rfl) rfl) rfl (At.callP (fun w hw => lawSlots_p o.ino o.sk o.sl o.sh o.st o.w0 o.w1 o.w2 w (tab_modS htab hw.mod h0) hop.st) Tryz.call9 rfl rfl (tA rfl rfl (tE (At.retC (At.blkR (At.thenR (At.ret1 (.inl rfl) rfl rfl rfl (fun w hw => ?_))))))))))))))
      exact ⟨S, rfl, by omega, (hw.drop (List.singleton_sublist.2 (List.mem_of_getElem? (i := 1) rfl)))⟩
     ·try simp only [sB] at h14
      refine At.seq (tR (tV (Val.bin rfl rfl rfl) rfl (tA rfl rfl (tE ?_))))
      refine At.cond rfl (fun h15 => ?_) (fun h15 => ?_)
      ·try simp only [sB] at h15
       refine At.skipC (At.thenN ?_)
       refine At.cond rfl (fun h16 => ?_) (fun h16 => ?_)
       ·try simp only [sB] at h16
        refine tR (tV (Val.field 12 rfl fo_49_5 rfl) rfl (tV (Val.loadPart (i := 0) (vs := [.int .i64 o.ek, b64 o.eq, .int .i64 o.eo, .int .i64 o.ec, .int .i64 o.ep, .int .i64 o.ez, .int .i64 o.ei, .string o.es]) Tryz.isAgg37 Tryz.sizeOf37 rfl rfl (rfl) rfl) rfl (tV (Val.field 20 rfl fo_49_6 rfl) rfl (tV (Val.loadPart (i := 0) (vs := (o.L.1.map bv)) Tryz.isAgg39 Tryz.sizeOf39 rfl rfl (opL_X o) (by rw [List.length_map, o.L.2])) rfl (At.callP (fun w hw => lawEntries_p o.ek (o.eq.toNat : Int) o.eo o.ec o.ep o.ez o.ei o.es o.L.1 w (tab_modS htab hw.mod h0) hop.l64 hop.es (by omega) hop.ep) Tryz.call10 rfl rfl (tA rfl rfl (tE (At.retC (At.blkR (At.thenR (At.ret1 (.inl rfl) rfl rfl rfl (fun w hw => ?_))))))))))))
        exact ⟨S, rfl, by omega, (hw.drop (List.singleton_sublist.2 (List.mem_of_getElem? (i := 1) rfl)))⟩
       ·try simp only [sB] at h16
        refine tR (tV (Val.bin rfl rfl rfl) rfl (tA rfl rfl (tE ?_)))
        refine At.cond rfl (fun h17 => ?_) (fun h17 => ?_)
        ·try simp only [sB] at h17
         refine tR (tV (Val.field 1 rfl fo_49_1 rfl) rfl (tV (Val.load (i := 0) Tryz.isAgg3 rfl rfl (opL_lo (j := 1) rfl)) rfl (tV (Val.field 88 rfl fo_49_10 rfl) rfl (tV (Val.loadPart (i := 0) (vs := [.int .i64 o.hn, .int .i64 o.ho]) Tryz.isAgg47 Tryz.sizeOf47 rfl rfl (opL_H o) rfl) rfl (tV (Val.field 9 rfl fo_49_4 rfl) rfl (tV (Val.indexArr 9 rfl Tryz.underlying35 Tryz.sizeOf34 rfl rfl (by decide) (by decide)) rfl (tV (Val.load (i := 0) Tryz.isAgg34 rfl rfl (opL_lo (j := 9) rfl)) rfl (tV (Val.field 9 rfl fo_49_4 rfl) rfl (tV (Val.indexArr 10 rfl Tryz.underlying35 Tryz.sizeOf34 rfl rfl (by decide) (by decide)) rfl (tV (Val.load (i := 0) Tryz.isAgg34 rfl rfl (opL_lo (j := 10) rfl)) rfl ?_))))))))))
         refine tV (Val.build (fun a ha => by simp only [List.map_toArray, List.map_cons, List.map_nil, ha.eval (x := (.tmp 50)) rfl, ha.eval (x := (.tmp 53)) rfl] <;> rfl) (bld_58_0_1 _ _ )) rfl (At.callP (fun w hw => lawHeaders_p o.ino o.hn o.ho o.w0 o.w1 w (tab_modS htab hw.mod h0)) Tryz.call11 rfl rfl (tA rfl rfl (tE (At.retC (At.blkR (At.thenR (At.ret1 (.inl rfl) rfl rfl rfl (fun w hw => ?_))))))))
         exact ⟨S, rfl, by omega, (hw.drop (List.singleton_sublist.2 (List.mem_of_getElem? (i := 1) rfl)))⟩
        ·try simp only [sB] at h17
         refine tR (tV (Val.bin rfl rfl rfl) rfl (tA rfl rfl (tE ?_)))
         refine At.cond rfl (fun h18 => ?_) (fun h18 => ?_)
         ·try simp only [sB] at h18
          refine tR (tV (Val.field 90 rfl fo_49_11 rfl) rfl (tV (Val.load (i := 0) Tryz.isAgg9 rfl rfl (opL_hi hop.l64 (j := 6) rfl)) rfl (At.callP (fun w hw => lawValid_p o.nm w hop.nm) Tryz.call12 rfl rfl (tA rfl rfl (tE (At.retC (At.blkR (At.thenR (At.ret1 (.inl rfl) rfl rfl rfl (fun w hw => ?_))))))))))
          exact ⟨S, rfl, by omega, (hw.drop (List.singleton_sublist.2 (List.mem_of_getElem? (i := 1) rfl)))⟩
         ·try simp only [sB] at h18
          refine At.skipC (At.blkN (At.thenN (tR (tM rfl rfl (tV (Val.loadAll (i := 0) Tryz.isAgg49 Tryz.sizeOf49 rfl rfl (opL_len hop.l64)) rfl (At.callG 1 rfl (fun w hw hr => lists_g k S o w (tab_modS htab hw.mod h0) h0 (hop.keep hw hoff) hoff hc hr) Tryz.call13 rfl rfl (fun y9 hy9 => ?_)))))))
          simp only [sc0, scS]
          refine tA rfl rfl (tE (At.retC (At.ret1 (.inl rfl) rfl rfl rfl (fun w hw => ?_))))
          exact ⟨y9, rfl, by omega, (hw.drop (List.singleton_sublist.2 (List.mem_of_getElem? (i := 1) rfl)))⟩
      ·try simp only [sB] at h15
       refine At.region (tV (Val.bin rfl rfl rfl) rfl (tA rfl rfl (tE ?_)))
       refine At.cond rfl (fun h19 => ?_) (fun h19 => ?_)
       ·try simp only [sB] at h19
        refine tR (tV (Val.field 12 rfl fo_49_5 rfl) rfl (tV (Val.loadPart (i := 0) (vs := [.int .i64 o.ek, b64 o.eq, .int .i64 o.eo, .int .i64 o.ec, .int .i64 o.ep, .int .i64 o.ez, .int .i64 o.ei, .string o.es]) Tryz.isAgg37 Tryz.sizeOf37 rfl rfl (rfl) rfl) rfl (tV (Val.field 20 rfl fo_49_6 rfl) rfl (tV (Val.loadPart (i := 0) (vs := (o.L.1.map bv)) Tryz.isAgg39 Tryz.sizeOf39 rfl rfl (opL_X o) (by rw [List.length_map, o.L.2])) rfl (At.callP (fun w hw => lawEntries_p o.ek (o.eq.toNat : Int) o.eo o.ec o.ep o.ez o.ei o.es o.L.1 w (tab_modS htab hw.mod h0) hop.l64 hop.es (by omega) hop.ep) Tryz.call10 rfl rfl (tA rfl rfl (tE (At.retC (At.blkR (At.thenR (At.ret1 (.inl rfl) rfl rfl rfl (fun w hw => ?_))))))))))))
        exact ⟨S, rfl, by omega, (hw.drop (List.singleton_sublist.2 (List.mem_of_getElem? (i := 1) rfl)))⟩
       ·try simp only [sB] at h19
        refine tR (tV (Val.bin rfl rfl rfl) rfl (tA rfl rfl (tE ?_)))
        refine At.cond rfl (fun h20 => ?_) (fun h20 => ?_)
        ·try simp only [sB] at h20
         refine tR (tV (Val.field 1 rfl fo_49_1 rfl) rfl (tV (Val.load (i := 0) Tryz.isAgg3 rfl rfl (opL_lo (j := 1) rfl)) rfl (tV (Val.field 88 rfl fo_49_10 rfl) rfl (tV (Val.loadPart (i := 0) (vs := [.int .i64 o.hn, .int .i64 o.ho]) Tryz.isAgg47 Tryz.sizeOf47 rfl rfl (opL_H o) rfl) rfl (tV (Val.field 9 rfl fo_49_4 rfl) rfl (tV (Val.indexArr 9 rfl Tryz.underlying35 Tryz.sizeOf34 rfl rfl (by decide) (by decide)) rfl (tV (Val.load (i := 0) Tryz.isAgg34 rfl rfl (opL_lo (j := 9) rfl)) rfl (tV (Val.field 9 rfl fo_49_4 rfl) rfl (tV (Val.indexArr 10 rfl Tryz.underlying35 Tryz.sizeOf34 rfl rfl (by decide) (by decide)) rfl (tV (Val.load (i := 0) Tryz.isAgg34 rfl rfl (opL_lo (j := 10) rfl)) rfl ?_))))))))))
         refine tV (Val.build (fun a ha => by simp only [List.map_toArray, List.map_cons, List.map_nil, ha.eval (x := (.tmp 50)) rfl, ha.eval (x := (.tmp 53)) rfl] <;> rfl) (bld_58_0_1 _ _ )) rfl (At.callP (fun w hw => lawHeaders_p o.ino o.hn o.ho o.w0 o.w1 w (tab_modS htab hw.mod h0)) Tryz.call11 rfl rfl (tA rfl rfl (tE (At.retC (At.blkR (At.thenR (At.ret1 (.inl rfl) rfl rfl rfl (fun w hw => ?_))))))))
         exact ⟨S, rfl, by omega, (hw.drop (List.singleton_sublist.2 (List.mem_of_getElem? (i := 1) rfl)))⟩
        ·try simp only [sB] at h20
         refine tR (tV (Val.bin rfl rfl rfl) rfl (tA rfl rfl (tE ?_)))
         refine At.cond rfl (fun h21 => ?_) (fun h21 => ?_)
         ·try simp only [sB] at h21
          refine tR (tV (Val.field 90 rfl fo_49_11 rfl) rfl (tV (Val.load (i := 0) Tryz.isAgg9 rfl rfl (opL_hi hop.l64 (j := 6) rfl)) rfl (At.callP (fun w hw => lawValid_p o.nm w hop.nm) Tryz.call12 rfl rfl (tA rfl rfl (tE (At.retC (At.blkR (At.thenR (At.ret1 (.inl rfl) rfl rfl rfl (fun w hw => ?_))))))))))
          exact ⟨S, rfl, by omega, (hw.drop (List.singleton_sublist.2 (List.mem_of_getElem? (i := 1) rfl)))⟩
         ·try simp only [sB] at h21
          refine At.skipC (At.blkN (At.thenN (tR (tM rfl rfl (tV (Val.loadAll (i := 0) Tryz.isAgg49 Tryz.sizeOf49 rfl rfl (opL_len hop.l64)) rfl (At.callG 1 rfl (fun w hw hr => lists_g k S o w (tab_modS htab hw.mod h0) h0 (hop.keep hw hoff) hoff hc hr) Tryz.call13 rfl rfl (fun y9 hy9 => ?_)))))))
          simp only [sc0, scS]
          refine tA rfl rfl (tE (At.retC (At.ret1 (.inl rfl) rfl rfl rfl (fun w hw => ?_))))
          exact ⟨y9, rfl, by omega, (hw.drop (List.singleton_sublist.2 (List.mem_of_getElem? (i := 1) rfl)))⟩
theorem lawAll_p (v : Value) (L : List OpL) (w : World) (htab : Tab w) (hv : RdOps w v L) (hl : L.length ≤ 8796093022144) :
    PureC Tryz.prog 3 [v] (.bool true) w := by
 refine enter0 Tryz.func3 rfl Tryz.ntmps3 rfl ?_
 simp only [envOf]
 refine tR (tA rfl rfl (tE (tR ?_)))
 refine tV (Val.build (fun a ha => by simp only [List.map_toArray, List.map_cons, List.map_nil] <;> rfl) (bld_28_)) rfl (At.box rfl rfl rfl (fun b1 => (tA rfl rfl (tE (At.seq (At.seq (At.bookNew (At.region (tA rfl rfl (tE (At.block ?_)))))))))))
 skip
 refine At.loop (σ := Nat × Bk) (fun s => s.1 ≤ L.length ∧ s.1 ≤ 200 ∧ s.2.cnt ≤ s.1) (fun s => [(0, v), (3, .pointer (some ⟨b1, 0, none⟩)), (4, .int .i64 (s.1 : Int))]) (fun s => [bookR b1 s.2]) (fun s => L.length - s.1) (0, emptyB) ⟨Nat.zero_le _, Nat.zero_le _, Nat.le_refl _⟩ (Sub.cons rfl (Sub.cons rfl (Sub.cons rfl Sub.nil))) (List.Perm.refl _) ?_
 intro s hs
 obtain ⟨i, S⟩ := s
 dsimp only at hs ⊢
 obtain ⟨hiL, hi2, hcS⟩ := hs
 refine At.seq (tR (At.weaken [(0, _), (3, _), (4, _)] (Sub.cons rfl (Sub.cons rfl (Sub.cons rfl Sub.nil))) ?_))
 refine At.boolMeet 8 15 (decide (i < L.length ∧ i < 200)) ?_ ?_
 ·simp only [List.take_succ_cons, List.take_zero]
  refine tM rfl rfl (tM rfl rfl (tV (Val.lenRd hv.1 Tryz.underlying22 rfl) rfl (tV (Val.bin rfl rfl rfl) rfl (tM rfl rfl ?_))))
  refine At.split (t := 12) rfl (fun h2 => ?_) (fun h2 => ?_)
  ·try simp only [sB] at h2
   refine At.yes rfl rfl (tM rfl rfl (At.yes rfl rfl (tV (Val.bin rfl rfl rfl) rfl (tV (Val.pickT rfl rfl) rfl (At.nil ?_)))))
   exact At.boolEnd rfl (by apply Bool.eq_iff_iff.2; (simp only [decide_eq_true_eq, Bool.false_eq_true, false_iff, true_iff, gt_iff_lt, ge_iff_le]) <;> omega) (by repeat (first | exact Sub.nil | refine Sub.cons rfl ?_))
  ·try simp only [sB] at h2
   refine At.no rfl rfl rfl rfl (At.no rfl rfl rfl rfl (tV (Val.pickF rfl rfl) rfl (At.nil ?_)))
   exact At.boolEnd rfl (by apply Bool.eq_iff_iff.2; (simp only [decide_eq_true_eq, Bool.false_eq_true, false_iff, true_iff, gt_iff_lt, ge_iff_le]) <;> omega) (by repeat (first | exact Sub.nil | refine Sub.cons rfl ?_))
 ·simp only [List.drop_succ_cons, List.drop_zero]
  refine tE ?_
  refine At.cond rfl (fun h3 => ?_) (fun h3 => ?_)
  ·try simp only [sB] at h3
   obtain ⟨o, ho⟩ : ∃ o, L[i]? = some o := ⟨_, List.getElem?_eq_getElem (by omega)⟩
   have hok := hv.2 o (List.mem_of_getElem? ho)
   refine At.skipC (At.thenN (At.seq (At.block (tR (tM rfl rfl (tM rfl rfl (tM rfl rfl (At.idxRd hv.1 Tryz.underlying22 Tryz.sizeOf49 rfl rfl (by omega) (by omega) rfl rfl (fun b9 o9 h9 => (tV (Val.loadOldPart (vs := opL o) Tryz.isAgg49 Tryz.sizeOf49 rfl (op91 o) (fun j u hj => h9 j u (flat_at op91 ho hj)) (fun h => h)) rfl (At.callG 0 rfl (fun w hw hr => plays_g b1 S o w (htab.mod hw.mod) (Rep.off0 hw htab (fun h => h) (i := 0) rfl) (hok.keep hw ⟨Off.none _ _, Off.none _ _, Off.none _ _⟩) ⟨Rd.off hok.u (Rep.newFoot hw (List.mem_of_getElem? (i := 0) rfl)), Rd.off hok.s (Rep.newFoot hw (List.mem_of_getElem? (i := 0) rfl)), Rd.off hok.b (Rep.newFoot hw (List.mem_of_getElem? (i := 0) rfl))⟩ (by omega) hr) Tryz.call4 rfl rfl (fun y9 hy9 => ?_))))))))))))
   simp only [sc0, scS]
   refine tA rfl rfl (tE (At.seq (tR (tM rfl rfl (tV (Val.not rfl) rfl (tE (At.condF rfl (At.skipC (At.thenN (tR (tM rfl rfl (At.call1 0 rfl (fun w hw hr => holds_k b1 y9 w hr) Tryz.call5 rfl rfl ?_))))))))))))
   simp only [sc0, scS]
   refine tA rfl rfl (tE (tR (tM rfl rfl (tV (Val.not rfl) rfl (tE (At.condF rfl (At.skipC (At.blkN (At.thenN (At.region (tM rfl rfl ?_)))))))))))
   first | refine tV (Val.addI rfl rfl (by omega) (by omega)) rfl ?_ | refine tV (Val.bin rfl rfl rfl) rfl ?_
   refine tA rfl rfl (tE ?_)
   exact At.again (i + 1, y9) ⟨(show i + 1 ≤ _ by omega), (show i + 1 ≤ 200 by omega), (show y9.cnt ≤ i + 1 by omega)⟩ (by dsimp only; omega) (Sub.cons rfl (Sub.cons rfl (Sub.cons (congrArg (fun z => some (Value.int IntKind.i64 z)) (by omega)) Sub.nil))) (List.Perm.refl _)
  ·try simp only [sB] at h3
   refine At.exitC (At.thenX (At.thenX (At.blkX (At.thenN (tR (tA rfl rfl (tE (At.retC (At.ret1 (.inl rfl) rfl rfl rfl (fun w hw => ?_))))))))))
   exact ⟨rfl, hw.mod⟩
end Go.Proofs.YthdmlpjhcalliaaGreatDoor
namespace Go.Proofs.YthdmlpjhcalliaaGreatDoor
open Go Go.Wk
theorem choose_list' {α : Type} {Q : Nat → α → Prop} : ∀ n : Nat, (∀ j, j < n → ∃ z, Q j z) → ∃ zs : List α, zs.length = n ∧ ∀ j z, zs[j]? = some z → Q j z
  | 0, _ => ⟨[], rfl, fun j z h => by simp at h⟩
  | n + 1, h => by
    obtain ⟨zs, hl, hz⟩ := choose_list' n (fun j hj => h j (by omega))
    obtain ⟨z, hq⟩ := h n (by omega)
    refine ⟨zs ++ [z], by simp [hl], fun j y hy => ?_⟩
    rcases Nat.lt_or_ge j n with hj | hj
    · rw [List.getElem?_append_left (by omega)] at hy; exact hz j y hy
    · have hj' : j < (zs ++ [z]).length := (List.getElem?_eq_some_iff.1 hy).1
      rw [List.length_append, hl] at hj'
      obtain rfl : n = j := by simp at hj'; omega
      rw [List.getElem?_append_right (by omega), hl, Nat.sub_self] at hy
      obtain rfl := Option.some.inj hy
      exact hq
open Go.ChangeShapes Go.WideShapes Go.ChangeAt Go.RowKit
section
variable {H : Type} {enc : TypeId × Value → H} {P : Program} {W : World} {r : Reach} {base b0 : Nat} {held : Bool}
theorem all_of {p : Nat → Bool} {e : TypeId} : ∀ {ds : List (DataW H)} {i : Nat} {d : DataW H}, (DataW.weightsAll P e ds).all p = true → ds[i]? = some d → (DataW.weights P e d).all p = true
  | d' :: ds, 0, d, h, hd => by
    simp only [DataW.weightsAll, List.all_append, Bool.and_eq_true] at h
    obtain rfl : d' = d := by simpa using hd
    exact h.1
  | d' :: ds, i + 1, d, h, hd => by
    simp only [DataW.weightsAll, List.all_append, Bool.and_eq_true] at h
    exact all_of h.2 (by simpa using hd)
  | [], i, d, h, hd => by simp at hd
theorem each_of {p : Nat → Bool} : ∀ {ts : List TypeId} {ds : List (DataW H)} {i : Nat} {t : TypeId} {d : DataW H}, (DataW.weightsEach P ts ds).all p = true → ts[i]? = some t → ds[i]? = some d → (DataW.weights P t d).all p = true
  | t' :: ts, d' :: ds, 0, t, d, h, ht, hd => by
    simp only [DataW.weightsEach, List.all_append, Bool.and_eq_true] at h
    have e1 : t' = t := by simpa using ht
    have e2 : d' = d := by simpa using hd
    subst e1 e2; exact h.1
  | t' :: ts, d' :: ds, i + 1, t, d, h, ht, hd => by
    simp only [DataW.weightsEach, List.all_append, Bool.and_eq_true] at h
    exact each_of h.2 (by simpa using ht) (by simpa using hd)
  | [], ds, i, t, d, h, ht, hd => by simp at ht
  | t' :: ts, [], i, t, d, h, ht, hd => by simp at hd
def Fits (z : Int) : Prop := -9223372036854775808 ≤ z ∧ z ≤ 9223372036854775807
def Fl (enc : TypeId × Value → H) (P : Program) (W : World) (b0 : Nat) (held : Bool) (t : TypeId) (c : Value) : Prop :=
  ∃ fuel x, DataW.trod enc P W b0 (fun _ => true) held fuel t [c] = some x ∧ (DataW.weights P t x.1).all (· ≤ reachBytes) = true
theorem Fl.int {t : TypeId} {c : Value} (u : P.underlying t = some (.int .i64)) (h : Fl enc P W b0 held t c) : ∃ n, c = .int .i64 n ∧ Fits n := by
  obtain ⟨fuel, x, hf, _⟩ := h
  obtain ⟨n, g, _, w⟩ := DataW.trod_int u hf
  exact ⟨n, by simpa using g, has64 (by simpa [Lit.wf, IntKind.has] using w)⟩
theorem Fl.word {t : TypeId} {c : Value} (u : P.underlying t = some (.int .u64)) (h : Fl enc P W b0 held t c) : ∃ x, c = b64 x := by
  obtain ⟨fuel, x, hf, _⟩ := h
  obtain ⟨n, g, _, w⟩ := DataW.trod_int u hf
  obtain ⟨x, rfl⟩ := hasU64 (n := n) (by simpa [Lit.wf, IntKind.has] using w)
  exact ⟨x, by simpa using g⟩
theorem Fl.nums {t e : TypeId} {k : IntKind} {c : Value} (hu : P.underlying t = some (.slice e)) (he : P.underlying e = some (.int k)) (hc : P.cellsOf e = 1) (h : Fl enc P W b0 held t c) :
    ∃ zs : List Int, Rd W c 1 zs.length (zs.map (Value.int k)) ∧ zs.length * P.bytesOf e ≤ reachBytes ∧ ∀ z ∈ zs, (Lit.int k z).wf = true := by
  obtain ⟨fuel, x, hf, hw⟩ := h
  rcases open_ints hu he hc hf with ⟨h0, _⟩ | ⟨a, len, cap, zs, h0, _, hl, _, hz, hx, hcell, hwf⟩
  · obtain rfl : c = .slice none 0 0 := by simpa using h0
    exact ⟨[], Rd.nil W 1, by simp, by simp⟩
  · obtain rfl : c = .slice (some a) len cap := by simpa using h0
    simp only [if_true] at hz
    have hxe : x.1 = _ := congrArg Prod.fst hx
    have hdw : zs.length * P.bytesOf e ≤ reachBytes := by
      have hall := List.all_eq_true.1 hw
      rw [hxe] at hall
      unfold DataW.weights at hall
      rw [hu] at hall
      have := hall _ (List.mem_cons_self ..)
      simp only [decide_eq_true_eq, lits, List.length_map] at this
      rw [← List.length_append, List.take_append_drop] at this
      exact this
    have hln : (zs.take len).length = len := by rw [List.length_take]; omega
    have hsp : ∀ j, j < zs.length → a.spot = none := fun j hj => by
      have := World.cell?_spot (hcell 0 (by omega))
      simpa [Addr.add] using this
    refine ⟨zs.take len, ⟨some a, cap, by rw [hln], fun j u hj => ?_, by rw [List.length_map, Nat.mul_one], by omega, (fun h => by cases h), (fun hc0 a' ha => by cases ha; exact hsp 0 (by omega))⟩, Nat.le_trans (Nat.mul_le_mul_right _ (by omega)) hdw, fun z hm => hwf z (List.mem_of_mem_take hm)⟩
    rw [List.getElem?_map, List.getElem?_take] at hj
    split at hj
    · rename_i hlt
      have hjl : j < zs.length := by omega
      have hs := hsp j hjl
      obtain ⟨b, o, s⟩ := a
      have hs' : s = none := hs
      subst hs'
      refine ⟨b, o, rfl, ?_⟩
      have h1 := hcell j hjl
      rw [Addr.add_off] at h1
      rw [h1, ← hj, List.getElem?_eq_getElem hjl]
      simp [List.getD, hjl]
    · cases hj
theorem Fl.bytes {t e : TypeId} {c : Value} (hu : P.underlying t = some (.slice e)) (he : P.underlying e = some (.int .u8)) (hc : P.cellsOf e = 1) (hby : P.bytesOf e = 1) (h : Fl enc P W b0 held t c) :
    ∃ L : List UInt8, RdB W c L ∧ L.length ≤ 140737488351232 := by
  obtain ⟨zs, h1, h2, h3⟩ := Fl.nums hu he hc h
  rw [hby] at h2
  unfold reachBytes at h2
  have he : zs.map (Value.int .u8) = (zs.map (fun z => UInt8.ofNat z.toNat)).map bv := by
    rw [List.map_map]
    refine List.map_congr_left fun z hz => ?_
    obtain ⟨q, rfl⟩ := hasU8 (n := z) (by simpa [Lit.wf, IntKind.has] using h3 z hz)
    simp [bv]
  refine ⟨zs.map (fun z => UInt8.ofNat z.toNat), ?_, by rw [List.length_map]; omega⟩
  unfold RdB
  rw [List.length_map, ← he]
  exact h1
theorem elems_of {t e : TypeId} {v : Value} {fuel n : Nat} {x : DataW H × List MemPlace} (hu : P.underlying t = some (.slice e)) (hc : P.cellsOf e = n)
    (hf : DataW.trod enc P W b0 (fun _ => true) held fuel t [v] = some x) (hw : (DataW.weights P t x.1).all (· ≤ reachBytes) = true) :
    v = .slice none 0 0 ∨ ∃ a len cap, v = .slice (some a) len cap ∧ len ≤ cap ∧ len * P.bytesOf e ≤ reachBytes ∧ ∀ i, i < len → ∃ cs fuel y, cs.length = n ∧ (∀ j, j < n → W.cell? ((a.add (i * n)).add j) = cs[j]?) ∧ DataW.trod enc P W b0 (fun _ => true) held fuel e cs = some y ∧ (DataW.weights P e y.1).all (· ≤ reachBytes) = true := by
  rcases DataW.trod_slice hu hf with ⟨h0, _⟩ | ⟨a, len, cap, elems, rest, m, _, h0, rfl, hb, hl, hm, hlen, hel, hsp, hns⟩
  · left; simpa using h0
  · right
    refine ⟨a, len, cap, by simpa using h0, hl, ?_, fun i hi => ?_⟩
    · have hall := List.all_eq_true.1 hw
      unfold DataW.weights at hall
      rw [hu] at hall
      have := hall _ (List.mem_cons_self ..)
      simp only [decide_eq_true_eq, List.length_map, hlen] at this
      exact Nat.le_trans (Nat.mul_le_mul_right _ (Nat.le_add_right _ _)) this
    · have h1 := hel i hi
      rw [hc, List.getElem?_eq_getElem (by omega), Option.bind_eq_some_iff] at h1
      obtain ⟨cs, h2, h3⟩ := h1
      have h4 := World.cells?_some h2
      refine ⟨cs, m, _, h4.2.1, h4.2.2, h3, ?_⟩
      · unfold DataW.weights at hw
        rw [hu] at hw
        simp only [List.all_cons, List.all_append, Bool.and_eq_true] at hw
        exact all_of (i := i) hw.2.1 (by rw [List.getElem?_map, List.getElem?_eq_getElem (show i < elems.length by omega)]; rfl)
end
section
variable {H : Type} {enc : TypeId × Value → H} {P : Program} {W : World} {base b0 : Nat} {held : Bool}
def FlL (enc : TypeId × Value → H) (P : Program) (W : World) (b0 : Nat) (held : Bool) (t : TypeId) (cs : List Value) : Prop :=
  ∃ fuel x, DataW.trod enc P W b0 (fun _ => true) held fuel t cs = some x ∧ (DataW.weights P t x.1).all (· ≤ reachBytes) = true
theorem flL_field {t u : TypeId} {fs : Array Field} {cs : List Value} {i o n : Nat} {f : Field} (ht : P.underlying t = some (.struct fs)) (h : FlL enc P W b0 held t cs) (hfi : fs[i]? = some f) (ho : f.offset = o) (hu : f.type = u) (hn : P.cellsOf u = n) : FlL enc P W b0 held u ((cs.drop o).take n) := by
  obtain ⟨fuel, x, hf, hw⟩ := h
  obtain ⟨xs, m, rfl, hx, _, hsz, hfl⟩ := DataW.trod_struct ht hf
  have h1 := hfl i f hfi
  rw [ho, hu, hn] at h1
  have hil : i < fs.size := (Array.getElem?_eq_some_iff.1 hfi).1
  have hxl : i < xs.length := by rw [hsz]; exact hil
  rw [List.getElem?_eq_getElem hxl] at h1
  refine ⟨m, _, h1, ?_⟩
  have hxe : x.1 = _ := congrArg Prod.fst hx
  rw [hxe] at hw
  unfold DataW.weights at hw
  rw [ht] at hw
  refine each_of hw (i := i) ?_ (by rw [List.getElem?_map, List.getElem?_eq_getElem hxl]; rfl)
  rw [List.getElem?_map, Array.getElem?_toList, hfi]
  exact congrArg some hu
theorem slice_spot {t e : TypeId} {fuel n len cap : Nat} {a : Addr} {x : DataW H × List MemPlace} (hu : P.underlying t = some (.slice e)) (hc : P.cellsOf e = n) (hn : 0 < n) (hf : DataW.trod enc P W b0 (fun _ => true) held fuel t [.slice (some a) len cap] = some x) (h0 : 0 < cap) : a.spot = none := by
  rcases DataW.trod_slice hu hf with ⟨h, _⟩ | ⟨a', len', cap', elems, rest, m, _, h1, rfl, hb, hl, hm, hlen, hel, hsp, hns⟩
  · simp at h
  · simp only [List.cons.injEq, Value.slice.injEq, Option.some.injEq, and_true] at h1
    obtain ⟨rfl, rfl, rfl⟩ := h1
    have key : ∀ y, (W.cells? b0 (a.add (0 * P.cellsOf e)) (P.cellsOf e)).bind (DataW.trod enc P W b0 (fun _ => true) held m e) = some y → a.spot = none := fun y hy => by
      rw [hc, Option.bind_eq_some_iff] at hy
      obtain ⟨cs, h2, _⟩ := hy
      have h4 := World.cells?_some h2
      have h5 := h4.2.2 0 hn
      rw [List.getElem?_eq_getElem (by rw [h4.2.1]; exact hn)] at h5
      have := World.cell?_spot h5
      simpa [Addr.add] using this
    rcases Nat.eq_zero_or_pos len with h | h
    · obtain ⟨g1, g2⟩ := hsp rfl
      have g3 := g2 0 (by omega)
      obtain ⟨y, hy⟩ : ∃ y, rest[0]? = some y := ⟨_, List.getElem?_eq_getElem (by omega)⟩
      rw [hy, h, Nat.zero_add] at g3
      exact key _ g3
    · have g3 := hel 0 h
      rw [List.getElem?_eq_getElem (by omega)] at g3
      exact key _ g3
end
def In64 (L : List (Int × BitVec 64)) : Prop := ∀ q ∈ L, -9223372036854775808 ≤ q.1 ∧ q.1 ≤ 9223372036854775807
section
variable {H : Type} {enc : TypeId × Value → H} {P : Program} {W : World} {base b0 : Nat} {held : Bool}
theorem Fl.pairs {t e ti tu : TypeId} {fs : Array Field} {f0 f1 : Field} {c : Value} (hu : P.underlying t = some (.slice e)) (he : P.underlying e = some (.struct fs)) (hc : P.cellsOf e = 2) (hby : P.bytesOf e = 16)
    (hf0 : fs[0]? = some f0) (hf1 : fs[1]? = some f1) (o0 : f0.offset = 0) (o1 : f1.offset = 1) (t0 : f0.type = ti) (t1 : f1.type = tu) (ui : P.underlying ti = some (.int .i64)) (uu : P.underlying tu = some (.int .u64)) (ci : P.cellsOf ti = 1) (cu : P.cellsOf tu = 1) (h : Fl enc P W b0 held t c) :
    ∃ L : List (Int × BitVec 64), RdP W c L ∧ L.length ≤ 8796093022144 ∧ In64 L := by
  obtain ⟨fuel, x, hf, hw⟩ := h
  rcases elems_of (n := 2) hu hc hf hw with rfl | ⟨a, len, cap, rfl, hlc, hb, hel⟩
  · exact ⟨[], Rd.nil W 2, by simp, fun q hq => by cases hq⟩
  · rw [hby] at hb
    unfold reachBytes at hb
    obtain ⟨L, hLl, hL⟩ := choose_list' (Q := fun j (z : Int × BitVec 64) => W.cell? ((a.add (j * 2)).add 0) = some (.int .i64 z.1) ∧ W.cell? ((a.add (j * 2)).add 1) = some (b64 z.2) ∧ (-9223372036854775808 ≤ z.1 ∧ z.1 ≤ 9223372036854775807)) len (fun j hj => by
      obtain ⟨cs, fu, y, h1, h2, h3, h4⟩ := hel j hj
      obtain ⟨c0, c1, rfl⟩ : ∃ c0 c1, cs = [c0, c1] := by match cs, h1 with | [c0, c1], _ => exact ⟨c0, c1, rfl⟩
      obtain ⟨n0, rfl, hn0⟩ := Fl.int ui (flL_field he ⟨fu, y, h3, h4⟩ hf0 o0 t0 ci)
      obtain ⟨n1, rfl⟩ := Fl.word uu (flL_field he ⟨fu, y, h3, h4⟩ hf1 o1 t1 cu)
      exact ⟨(n0, n1), h2 0 (by decide), h2 1 (by decide), hn0⟩)
    subst hLl
    have hsp : 0 < cap → a.spot = none := slice_spot hu hc (by decide) hf
    refine ⟨L, ⟨some a, cap, rfl, fun j u hj => ?_, prC_length L, hlc, (fun h => by cases h), (fun hc0 a' ha => by cases ha; exact hsp hc0)⟩, by omega, fun q hq => by obtain ⟨i, hi⟩ := List.getElem?_of_mem hq; exact (hL i q hi).2.2⟩
    have hjl : j < L.length * 2 := by rw [← prC_length L]; exact (List.getElem?_eq_some_iff.1 hj).1
    have hq : L[j / 2]? = some (L[j / 2]'(by omega)) := List.getElem?_eq_getElem _
    have hz := hL (j / 2) _ hq
    have hp := prC_at hq
    have hs := hsp (by omega)
    obtain ⟨b, o, s⟩ := a
    have hs' : s = none := hs
    subst hs'
    refine ⟨b, o, rfl, ?_⟩
    rcases Nat.mod_two_eq_zero_or_one j with hm | hm
    · have e : j / 2 * 2 = j := by omega
      rw [e] at hp hz
      rw [hj] at hp
      rw [Option.some.inj hp.1]
      have := hz.1
      rwa [Addr.add_off, Addr.add_off, Nat.add_zero] at this
    · have e : j / 2 * 2 + 1 = j := by omega
      rw [e] at hp
      rw [hj] at hp
      rw [Option.some.inj hp.2]
      have := hz.2.1
      rwa [Addr.add_off, Addr.add_off, Nat.add_assoc, e] at this
end
section
variable {H : Type} {enc : TypeId × Value → H} {P : Program} {W : World} {base b0 : Nat} {held : Bool}
theorem Fl.spans {t e ti : TypeId} {fs : Array Field} {f0 f1 : Field} {c : Value} (hu : P.underlying t = some (.slice e)) (he : P.underlying e = some (.struct fs)) (hc : P.cellsOf e = 2) (hby : P.bytesOf e = 16)
    (hf0 : fs[0]? = some f0) (hf1 : fs[1]? = some f1) (o0 : f0.offset = 0) (o1 : f1.offset = 1) (t0 : f0.type = ti) (t1 : f1.type = ti) (ui : P.underlying ti = some (.int .i64)) (ci : P.cellsOf ti = 1) (h : Fl enc P W b0 held t c) :
    ∃ L : List (Int × Int), RdS W c L ∧ L.length ≤ 8796093022144 := by
  obtain ⟨fuel, x, hf, hw⟩ := h
  rcases elems_of (n := 2) hu hc hf hw with rfl | ⟨a, len, cap, rfl, hlc, hb, hel⟩
  · exact ⟨[], Rd.nil W 2, by simp⟩
  · rw [hby] at hb
    unfold reachBytes at hb
    obtain ⟨L, hLl, hL⟩ := choose_list' (Q := fun j (z : Int × Int) => W.cell? ((a.add (j * 2)).add 0) = some (.int .i64 z.1) ∧ W.cell? ((a.add (j * 2)).add 1) = some (.int .i64 z.2)) len (fun j hj => by
      obtain ⟨cs, fu, y, h1, h2, h3, h4⟩ := hel j hj
      obtain ⟨c0, c1, rfl⟩ : ∃ c0 c1, cs = [c0, c1] := by match cs, h1 with | [c0, c1], _ => exact ⟨c0, c1, rfl⟩
      obtain ⟨n0, rfl, _⟩ := Fl.int ui (flL_field he ⟨fu, y, h3, h4⟩ hf0 o0 t0 ci)
      obtain ⟨n1, rfl, _⟩ := Fl.int ui (flL_field he ⟨fu, y, h3, h4⟩ hf1 o1 t1 ci)
      exact ⟨(n0, n1), h2 0 (by decide), h2 1 (by decide)⟩)
    subst hLl
    have hsp : 0 < cap → a.spot = none := slice_spot hu hc (by decide) hf
    refine ⟨L, ⟨some a, cap, rfl, fun j u hj => ?_, prS_length L, hlc, (fun h => by cases h), (fun hc0 a' ha => by cases ha; exact hsp hc0)⟩, by omega⟩
    have hjl : j < L.length * 2 := by rw [← prS_length L]; exact (List.getElem?_eq_some_iff.1 hj).1
    have hq : L[j / 2]? = some (L[j / 2]'(by omega)) := List.getElem?_eq_getElem _
    have hz := hL (j / 2) _ hq
    have hp := prS_at hq
    have hs := hsp (by omega)
    obtain ⟨b, o, s⟩ := a
    have hs' : s = none := hs
    subst hs'
    refine ⟨b, o, rfl, ?_⟩
    rcases Nat.mod_two_eq_zero_or_one j with hm | hm
    · have e : j / 2 * 2 = j := by omega
      rw [e] at hp hz
      rw [hj] at hp
      rw [Option.some.inj hp.1]
      have := hz.1
      rwa [Addr.add_off, Addr.add_off, Nat.add_zero] at this
    · have e : j / 2 * 2 + 1 = j := by omega
      rw [e] at hp
      rw [hj] at hp
      rw [Option.some.inj hp.2]
      have := hz.2
      rwa [Addr.add_off, Addr.add_off, Nat.add_assoc, e] at this
theorem Fl.text {t : TypeId} {c : Value} (u : P.underlying t = some .string) (h : Fl enc P W b0 held t c) : ∃ s : ByteArray, c = .string s ∧ s.size ≤ 9223372036854775807 := by
  obtain ⟨fuel, x, hf, _⟩ := h
  obtain ⟨s, g, _, w⟩ := DataW.trod_string u hf
  exact ⟨s, by simpa using g, by unfold maxLen at w; omega⟩
theorem Fl.u32 {t : TypeId} {c : Value} (u : P.underlying t = some (.int .u32)) (h : Fl enc P W b0 held t c) : ∃ x, c = b32 x := by
  obtain ⟨fuel, x, hf, _⟩ := h
  obtain ⟨n, g, _, w⟩ := DataW.trod_int u hf
  obtain ⟨x, rfl⟩ := hasU32 (n := n) (by simpa [Lit.wf, IntKind.has] using w)
  exact ⟨x, by simpa using g⟩
theorem FlL.arr {t e n : Nat} {k : IntKind} {cs : List Value} (ht : P.underlying t = some (.array n e)) (he : P.underlying e = some (.int k)) (hc : P.cellsOf e = 1) (h : FlL enc P W b0 held t cs) (hl : cs.length = n) : ∀ c ∈ cs, ∃ z, c = .int k z ∧ k.has z := fun c hm => by
  obtain ⟨fuel, x, hf, _⟩ := h
  obtain ⟨xs, m, rfl, _, _, hx, hfl⟩ := DataW.trod_array ht hf
  obtain ⟨i, hi⟩ := List.getElem?_of_mem hm
  have hil : i < cs.length := (List.getElem?_eq_some_iff.1 hi).1
  have h1 := hfl i (by omega)
  rw [hc, Nat.mul_one, List.getElem?_eq_getElem (by omega), List.drop_eq_getElem_cons hil, List.take_succ_cons, List.take_zero, (List.getElem?_eq_some_iff.1 hi).2] at h1
  obtain ⟨z, g, _, w⟩ := DataW.trod_int he h1
  exact ⟨z, by simpa using g, by simpa [Lit.wf, IntKind.has] using w⟩
theorem cut3 {A X Z : List Value} (ha : A.length = 20) (hx : X.length = 64) (j n q : Nat) (hq : q = 84 + j) : ((A ++ (X ++ Z)).drop q).take n = (Z.drop j).take n := by
  subst hq
  rw [show 84 + j = 20 + (64 + j) by omega, ← List.drop_drop, ← ha, List.drop_left, ← List.drop_drop, ← hx, List.drop_left]
theorem cutX {A X Z : List Value} (ha : A.length = 20) (hx : X.length = 64) : ((A ++ (X ++ Z)).drop 20).take 64 = X := by
  rw [← ha, List.drop_left, List.take_left' hx]
theorem split91 {cs : List Value} (h : cs.length = 91) : ∃ A X Z, cs = A ++ (X ++ Z) ∧ A.length = 20 ∧ X.length = 64 ∧ Z.length = 7 := by
  refine ⟨cs.take 20, (cs.drop 20).take 64, (cs.drop 20).drop 64, ?_, ?_, ?_, ?_⟩
  · rw [List.take_append_drop, List.take_append_drop]
  · rw [List.length_take]; omega
  · rw [List.length_take, List.length_drop]; omega
  · rw [List.length_drop, List.length_drop]; omega
end
theorem oC_split : ∀ {L : List OpL} {j : Nat} {u : Value}, (L.flatMap opL)[j]? = some u → ∃ i k o, L[i]? = some o ∧ j = i * 91 + k ∧ k < 91 ∧ (opL o)[k]? = some u
  | [], j, u, h => by simp at h
  | c :: L, j, u, h => by
    have hc := op91 c
    rw [List.flatMap_cons] at h
    rcases Nat.lt_or_ge j 91 with hj | hj
    · rw [List.getElem?_append_left (by omega)] at h
      exact ⟨0, j, c, rfl, by omega, hj, h⟩
    · rw [List.getElem?_append_right (by omega)] at h
      obtain ⟨i, k, o, h1, h2, h3, h4⟩ := oC_split h
      exact ⟨i + 1, k, o, by simpa using h1, by omega, h3, h4⟩
section
variable {H : Type} {enc : TypeId × Value → H} {W : World} {base b0 : Nat} {held : Bool}
set_option maxRecDepth 100000 in
theorem op_elem {cs : List Value} {fuel : Nat} {y : DataW H × List MemPlace} (hl : cs.length = 91) (hf : DataW.trod enc Tryz.prog W b0 (fun _ => true) held fuel 49 cs = some y) (hw : (DataW.weights Tryz.prog 49 y.1).all (· ≤ reachBytes) = true) :
    ∃ o : OpL, OpOk W o ∧ cs = opL o := by
  obtain ⟨A, X, Z, rfl, hA, hX, hZ⟩ := split91 hl
  have hr : FlL enc Tryz.prog W b0 held 49 (A ++ (X ++ Z)) := ⟨fuel, y, hf, hw⟩
  have U := Tryz.underlying49
  have fX := flL_field (i := 6) (o := 20) (n := 64) (u := 39) U hr rfl rfl rfl (by kernel_rfl)
  have f7 := flL_field (i := 7) (o := 84) (n := 1) (u := 40) U hr rfl rfl rfl (by kernel_rfl)
  have f8 := flL_field (i := 8) (o := 85) (n := 2) (u := 44) U hr rfl rfl rfl (by kernel_rfl)
  have f9 := flL_field (i := 9) (o := 87) (n := 1) (u := 45) U hr rfl rfl rfl (by kernel_rfl)
  have fa := flL_field (i := 10) (o := 88) (n := 2) (u := 47) U hr rfl rfl rfl (by kernel_rfl)
  have fb := flL_field (i := 11) (o := 90) (n := 1) (u := 9) U hr rfl rfl rfl (by kernel_rfl)
  rw [cutX hA hX] at fX
  rw [cut3 hA hX 0 1 84 rfl] at f7
  rw [cut3 hA hX 1 2 85 rfl] at f8
  rw [cut3 hA hX 3 1 87 rfl] at f9
  rw [cut3 hA hX 4 2 88 rfl] at fa
  rw [cut3 hA hX 6 1 90 rfl] at fb
  obtain ⟨z0, z1, z2, z3, z4, z5, z6, rfl⟩ : ∃ z0 z1 z2 z3 z4 z5 z6, Z = [z0, z1, z2, z3, z4, z5, z6] := by
    match Z, hZ with
    | [z0, z1, z2, z3, z4, z5, z6], _ => exact ⟨z0, z1, z2, z3, z4, z5, z6, rfl⟩
  obtain ⟨CS, rfl⟩ : ∃ l : List UInt8, X = l.map bv := list_bytes (cs := X) (FlL.arr Tryz.underlying39 Tryz.underlying5 (by kernel_rfl) fX hX)
  obtain ⟨LU, hU, hUl, hUb⟩ := Fl.pairs (ti := 3) (tu := 34) Tryz.underlying40 Tryz.underlying62 (by kernel_rfl) (by kernel_rfl) rfl rfl rfl rfl rfl rfl Tryz.underlying3 Tryz.underlying34 (by kernel_rfl) (by kernel_rfl) f7
  have V8 := Tryz.underlying44
  obtain ⟨rt, h1⟩ := Fl.u32 Tryz.underlying41 (flL_field (i := 0) (o := 0) (n := 1) (u := 41) V8 f8 rfl rfl rfl (by kernel_rfl))
  obtain ⟨LS, hS, hSl⟩ := Fl.spans (ti := 3) Tryz.underlying42 Tryz.underlying64 (by kernel_rfl) (by kernel_rfl) rfl rfl rfl rfl rfl rfl Tryz.underlying3 (by kernel_rfl) (flL_field (i := 1) (o := 1) (n := 1) (u := 42) V8 f8 rfl rfl rfl (by kernel_rfl))
  obtain ⟨lB, hB, hBl⟩ := Fl.bytes Tryz.underlying45 Tryz.underlying5 (by kernel_rfl) (by kernel_rfl) f9
  have Va := Tryz.underlying47
  obtain ⟨hn, h4, _⟩ := Fl.int Tryz.underlying3 (flL_field (i := 0) (o := 0) (n := 1) (u := 3) Va fa rfl rfl rfl (by kernel_rfl))
  obtain ⟨ho, h5, _⟩ := Fl.int Tryz.underlying3 (flL_field (i := 1) (o := 1) (n := 1) (u := 3) Va fa rfl rfl rfl (by kernel_rfl))
  obtain ⟨nm, h6, hnm⟩ := Fl.text Tryz.underlying9 fb
  subst h1 h4 h5 h6
  obtain ⟨c0, c1, c2, c3, c4, c5, c6, c7, c8, c9, c10, c11, c12, c13, c14, c15, c16, c17, c18, c19, rfl⟩ : ∃ c0 c1 c2 c3 c4 c5 c6 c7 c8 c9 c10 c11 c12 c13 c14 c15 c16 c17 c18 c19, A = [c0, c1, c2, c3, c4, c5, c6, c7, c8, c9, c10, c11, c12, c13, c14, c15, c16, c17, c18, c19] := by
    match A, hA with
    | [c0, c1, c2, c3, c4, c5, c6, c7, c8, c9, c10, c11, c12, c13, c14, c15, c16, c17, c18, c19], _ => exact ⟨c0, c1, c2, c3, c4, c5, c6, c7, c8, c9, c10, c11, c12, c13, c14, c15, c16, c17, c18, c19, rfl⟩
  obtain ⟨kd, rfl, _⟩ := Fl.int Tryz.underlying3 (flL_field (i := 0) (o := 0) (n := 1) (u := 3) U hr rfl rfl rfl (by kernel_rfl))
  obtain ⟨ino, rfl, _⟩ := Fl.int Tryz.underlying3 (flL_field (i := 1) (o := 1) (n := 1) (u := 3) U hr rfl rfl rfl (by kernel_rfl))
  have fp : FlL enc Tryz.prog W b0 held 31 [c2, c3, c4] := flL_field (i := 2) (o := 2) (n := 3) (u := 31) U hr rfl rfl rfl (by kernel_rfl)
  have Vp := Tryz.underlying31
  obtain ⟨sp, rfl, hsp⟩ := Fl.int Tryz.underlying3 (flL_field (i := 0) (o := 0) (n := 1) (u := 3) Vp fp rfl rfl rfl (by kernel_rfl))
  obtain ⟨si, rfl, _⟩ := Fl.int Tryz.underlying3 (flL_field (i := 1) (o := 1) (n := 1) (u := 3) Vp fp rfl rfl rfl (by kernel_rfl))
  obtain ⟨sc, rfl, _⟩ := Fl.int Tryz.underlying3 (flL_field (i := 2) (o := 2) (n := 1) (u := 3) Vp fp rfl rfl rfl (by kernel_rfl))
  have fs : FlL enc Tryz.prog W b0 held 33 [c5, c6, c7, c8] := flL_field (i := 3) (o := 5) (n := 4) (u := 33) U hr rfl rfl rfl (by kernel_rfl)
  have Vs := Tryz.underlying33
  obtain ⟨sk, rfl, _⟩ := Fl.int Tryz.underlying3 (flL_field (i := 0) (o := 0) (n := 1) (u := 3) Vs fs rfl rfl rfl (by kernel_rfl))
  obtain ⟨sl, rfl, _⟩ := Fl.int Tryz.underlying3 (flL_field (i := 1) (o := 1) (n := 1) (u := 3) Vs fs rfl rfl rfl (by kernel_rfl))
  obtain ⟨sh, rfl, _⟩ := Fl.int Tryz.underlying3 (flL_field (i := 2) (o := 2) (n := 1) (u := 3) Vs fs rfl rfl rfl (by kernel_rfl))
  obtain ⟨st, rfl, hst⟩ := Fl.int Tryz.underlying3 (flL_field (i := 3) (o := 3) (n := 1) (u := 3) Vs fs rfl rfl rfl (by kernel_rfl))
  have fw : FlL enc Tryz.prog W b0 held 35 [c9, c10, c11] := flL_field (i := 4) (o := 9) (n := 3) (u := 35) U hr rfl rfl rfl (by kernel_rfl)
  have gw := FlL.arr Tryz.underlying35 Tryz.underlying34 (by kernel_rfl) fw rfl
  obtain ⟨n9, rfl, g9⟩ := gw c9 (by simp)
  obtain ⟨n10, rfl, g10⟩ := gw c10 (by simp)
  obtain ⟨n11, rfl, g11⟩ := gw c11 (by simp)
  obtain ⟨w0, rfl⟩ := hasU64 g9
  obtain ⟨w1, rfl⟩ := hasU64 g10
  obtain ⟨w2, rfl⟩ := hasU64 g11
  have fe : FlL enc Tryz.prog W b0 held 37 [c12, c13, c14, c15, c16, c17, c18, c19] := flL_field (i := 5) (o := 12) (n := 8) (u := 37) U hr rfl rfl rfl (by kernel_rfl)
  have Ve := Tryz.underlying37
  obtain ⟨ek, rfl, _⟩ := Fl.int Tryz.underlying3 (flL_field (i := 0) (o := 0) (n := 1) (u := 3) Ve fe rfl rfl rfl (by kernel_rfl))
  obtain ⟨eq, rfl⟩ := Fl.word Tryz.underlying34 (flL_field (i := 1) (o := 1) (n := 1) (u := 34) Ve fe rfl rfl rfl (by kernel_rfl))
  obtain ⟨eo, rfl, _⟩ := Fl.int Tryz.underlying3 (flL_field (i := 2) (o := 2) (n := 1) (u := 3) Ve fe rfl rfl rfl (by kernel_rfl))
  obtain ⟨ec, rfl, _⟩ := Fl.int Tryz.underlying3 (flL_field (i := 3) (o := 3) (n := 1) (u := 3) Ve fe rfl rfl rfl (by kernel_rfl))
  obtain ⟨ep, rfl, hep⟩ := Fl.int Tryz.underlying3 (flL_field (i := 4) (o := 4) (n := 1) (u := 3) Ve fe rfl rfl rfl (by kernel_rfl))
  obtain ⟨ez, rfl, _⟩ := Fl.int Tryz.underlying3 (flL_field (i := 5) (o := 5) (n := 1) (u := 3) Ve fe rfl rfl rfl (by kernel_rfl))
  obtain ⟨ei, rfl, _⟩ := Fl.int Tryz.underlying3 (flL_field (i := 6) (o := 6) (n := 1) (u := 3) Ve fe rfl rfl rfl (by kernel_rfl))
  obtain ⟨es, rfl, hes⟩ := Fl.text Tryz.underlying9 (flL_field (i := 7) (o := 7) (n := 1) (u := 9) Ve fe rfl rfl rfl (by kernel_rfl))
  have hX' : CS.length = 64 := by rw [← hX, List.length_map]
  exact ⟨⟨kd, ino, sp, si, sc, sk, sl, sh, st, w0, w1, w2, ek, eq, eo, ec, ep, ez, ei, es, ⟨CS, hX'⟩, z0, LU, rt, z2, LS, z3, lB, hn, ho, nm⟩, ⟨hX', hU, hS, hB, hUl, hSl, hBl, hUb, hsp, hst, hep, hes, hnm⟩, rfl⟩
set_option maxRecDepth 100000 in
theorem arg_opts {r : Reach} {v : Value} {d : DataW H} {ps : List MemPlace} (h : Value.okWide Tryz.prog W r base 22 v) (hd : DataW.Trod enc Tryz.prog W b0 (fun _ => true) held 22 v d ps) (hw : (DataW.weights Tryz.prog 22 d).all (· ≤ reachBytes) = true) :
    ∃ L : List OpL, RdOps W v L ∧ L.length ≤ 8796093022144 := by
  obtain ⟨fuel, hf⟩ := hd
  have hok := arg_slice Tryz.underlying22 h
  have hv : v.cells.toList = [v] := by rcases hok with rfl | ⟨_, _, _, _, rfl, _⟩ <;> rfl
  rw [hv] at hf
  rcases elems_of (n := 91) Tryz.underlying22 (by kernel_rfl) hf hw with rfl | ⟨a, len, cap, rfl, hlc, hby, hel⟩
  · exact ⟨[], ⟨Rd.nil W 91, by simp⟩, by simp⟩
  · have hby' : Tryz.prog.bytesOf 49 = 344 := by kernel_rfl
    rw [hby'] at hby
    unfold reachBytes at hby
    obtain ⟨b, o, rfl⟩ : ∃ b o, a = ⟨b, o, none⟩ := by
      rcases hok with h0 | ⟨b, o, n, c, h0, _⟩
      · cases h0
      · simp only [Value.slice.injEq, Option.some.injEq] at h0
        exact ⟨b, o, h0.1⟩
    obtain ⟨L, hLl, hL⟩ := choose_list' (Q := fun j (z : OpL) => OpOk W z ∧ ∀ k u, (opL z)[k]? = some u → W.cell? (((⟨b, o, none⟩ : Addr).add (j * 91)).add k) = some u) len (fun j hj => by
      obtain ⟨cs, fu, y, h1, h2, h3, h4⟩ := hel j hj
      obtain ⟨z, hz, rfl⟩ := op_elem h1 h3 h4
      exact ⟨z, hz, fun k u hk => by rw [h2 k (by have := (List.getElem?_eq_some_iff.1 hk).1; have := op91 z; omega)]; exact hk⟩)
    subst hLl
    refine ⟨L, ⟨⟨some ⟨b, o, none⟩, cap, rfl, fun j u hj => ?_, flat_len op91 L, hlc, (fun h => by cases h), (fun _ a ha => by cases ha; rfl)⟩, fun z hm => ?_⟩, by omega⟩
    · obtain ⟨i, k, z, hi, rfl, hk, hu⟩ := oC_split hj
      have := (hL i z hi).2 k u hu
      rw [Addr.add_off, Addr.add_off, Nat.add_assoc] at this
      exact ⟨b, o, rfl, this⟩
    · obtain ⟨i, hi⟩ := List.getElem?_of_mem hm
      exact (hL i z hi).1
end
end Go.Proofs.YthdmlpjhcalliaaGreatDoor
