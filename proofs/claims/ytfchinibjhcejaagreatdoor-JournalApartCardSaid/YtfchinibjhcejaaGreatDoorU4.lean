/- Parts of the proof, joined: see the law's text. -/
import Derived.Test.YtfchinibjhcejaaGreatDoorU3
import Derived.Test.YtfchinibjhcejaaGreatDoorU2
import Derived.Shelf.Slices.CompactI
import Derived.Test.YtfchinibjhcejaaGreatDoorChecked
set_option linter.unusedVariables false
set_option linter.unusedSimpArgs false
namespace Go.Proofs.YtfchinibjhcejaaGreatDoor
open Go Go.Wk
def lo (x : BitVec 64) : Nat := (x.setWidth 32).toNat
def Sl (a : Int) (x : BitVec 64) : Prop := sealW (BitVec.ofInt 64 a) (x.setWidth 32) = x
instance (a : Int) (x : BitVec 64) : Decidable (Sl a x) := by unfold Sl; infer_instance
theorem num_b64 (l : List UInt8) (a : Nat) : (Value.int .u64 ((num l a 8 : Nat) : Int)) = b64 (BitVec.ofNat 64 (num l a 8)) := by
  unfold b64; rw [BitVec.toNat_ofNat, Nat.mod_eq_of_lt (by have := num_lt (l := l) a 8; simpa using this)]
theorem ofNat_num (l : List UInt8) (a : Nat) : (BitVec.ofNat 64 (num l a 8)).toNat = num l a 8 := by
  rw [BitVec.toNat_ofNat, Nat.mod_eq_of_lt (by have := num_lt (l := l) a 8; simpa using this)]
theorem ofInt_num (l : List UInt8) (a : Nat) : (BitVec.ofInt 64 ((num l a 8 : Nat) : Int)).toNat = num l a 8 := by
  rw [show BitVec.ofInt 64 ((num l a 8 : Nat) : Int) = BitVec.ofNat 64 (num l a 8) from by simp, ofNat_num]
def wordA (l : List UInt8) (a : Nat) : BitVec 64 := BitVec.ofNat 64 (num l a 8)
theorem num_wordA (l : List UInt8) (a : Nat) : (Value.int .u64 ((num l a 8 : Nat) : Int)) = b64 (wordA l a) := num_b64 l a
def unN (l : List UInt8) : Nat := lo (wordA l 0)
def recs (l : List UInt8) (k : Nat) : List (Int × BitVec 64) := (List.range k).map fun j => (((num l (64 + 16 * j) 8 : Nat) : Int), wordA l (64 + 16 * j + 8))
theorem recs_succ (l : List UInt8) (k : Nat) : recs l (k + 1) = recs l k ++ [(((num l (64 + 16 * k) 8 : Nat) : Int), wordA l (64 + 16 * k + 8))] := by
  unfold recs; rw [List.range_succ, List.map_append]; rfl
theorem recs_length (l : List UInt8) (k : Nat) : (recs l k).length = k := by unfold recs; simp
theorem recs_get (l : List UInt8) {k n : Nat} (h : k < n) : (recs l n)[k]? = some (((num l (64 + 16 * k) 8 : Nat) : Int), wordA l (64 + 16 * k + 8)) := by
  unfold recs; simp [List.getElem?_map, List.getElem?_range h]
def seg (l : List UInt8) (n : Nat) : List UInt8 := (l.drop 64).take (16 * n)
theorem seg_cut (l : List UInt8) (n : Nat) : (l.drop 64).take (64 + 16 * n - 64) = seg l n := by unfold seg; rw [show 64 + 16 * n - 64 = 16 * n by omega]
theorem take_two {l : List UInt8} (a n m : Nat) : (l.drop a).take (n + m) = (l.drop a).take n ++ (l.drop (a + n)).take m := by
  rw [List.take_add, List.drop_drop]
theorem recB_recs {l : List UInt8} {n : Nat} (h : 64 + 16 * n ≤ l.length) : recB (recs l n) = seg l n := by
  induction n with
  | zero => simp [recs, recB, undoWs, bytesW, seg]
  | succ n ih =>
    rw [recs_succ, recB_snoc, ih (by omega), ofInt_num, show (wordA l (64 + 16 * n + 8)).toNat = num l (64 + 16 * n + 8) 8 from ofNat_num l _, le_num (by omega), le_num (by omega)]
    unfold seg
    rw [show 16 * (n + 1) = 16 * n + (8 + 8) by omega, take_two 64 (16 * n) (8 + 8), take_two (64 + 16 * n) 8 8, List.append_assoc]
def OkUn (l : List UInt8) : Prop := l.length = 512 ∧ Sl 512 (wordA l 0) ∧ (unN l = 0 ∨ (unN l ≤ 8 ∧ sealW (BitVec.ofInt 64 520) (sumOn 0 (seg l (unN l))) = wordA l 8 ∧ GoodUn (recs l (unN l))))
noncomputable instance (l : List UInt8) : Decidable (OkUn l) := Classical.propDecidable _
noncomputable def openUnL (l : List UInt8) : List (Int × BitVec 64) := if OkUn l then recs l (unN l) else []
noncomputable def openUnE (l : List UInt8) : Int := if OkUn l then 0 else 35
theorem openUnL_no {l : List UInt8} (h : ¬ OkUn l) : openUnL l = [] := if_neg h
theorem openUnE_no {l : List UInt8} (h : ¬ OkUn l) : openUnE l = 35 := if_neg h
theorem openUnL_yes {l : List UInt8} (h : OkUn l) : openUnL l = recs l (unN l) := if_pos h
theorem openUnE_yes {l : List UInt8} (h : OkUn l) : openUnE l = 0 := if_pos h
theorem openUnL_0 {l : List UInt8} (h : OkUn l) (h0 : unN l = 0) : openUnL l = [] := by rw [openUnL_yes h, h0]; rfl
theorem OkUn.two {l : List UInt8} (h : OkUn l) (h0 : ¬ unN l = 0) : unN l ≤ 8 ∧ sealW (BitVec.ofInt 64 520) (sumOn 0 (seg l (unN l))) = wordA l 8 ∧ GoodUn (recs l (unN l)) := h.2.2.resolve_left h0
theorem good_at {L : List (Int × BitVec 64)} {k : Nat} {c : Int × BitVec 64} (g : GoodUn L) (h : L[k]? = some c) : c.1 ≤ 18431 := (g.2.2 k (List.getElem?_eq_some_iff.1 h).1 c h).1.2.1
theorem OkUn.at {l : List UInt8} (h : OkUn l) {k : Nat} (hk : k < unN l) : num l (64 + 16 * k) 8 ≤ 18431 := by
  have := good_at (h.two (by omega)).2.2 (recs_get l hk)
  simp only at this; omega
theorem seal_lo {a : Int} {s : BitVec 32} {x : BitVec 64} (h : sealW (BitVec.ofInt 64 a) s = x) : Sl a x ∧ lo x = s.toNat := by
  subst h; exact ⟨by unfold Sl; rw [seal_low], by unfold lo; rw [seal_low]⟩
theorem seal_of {a : Int} {s : BitVec 32} {x : BitVec 64} (h : Sl a x) (e : s.toNat = lo x) : sealW (BitVec.ofInt 64 a) s = x := by
  have : s = x.setWidth 32 := BitVec.eq_of_toNat_eq e
  rw [this]; exact h
theorem recs_bd {l : List UInt8} {n : Nat} (h : ∀ j, j < n → num l (64 + 16 * j) 8 < 4294967296) : ∀ c ∈ recs l n, -9223372036854775808 ≤ c.1 ∧ c.1 ≤ 9223372036854775807 := fun c hc => by
  unfold recs at hc
  obtain ⟨j, hj, rfl⟩ := List.mem_map.1 hc
  have := h j (List.mem_range.1 hj)
  simp only; omega
theorem num_atU {a b m : List UInt8} {n x p : Nat} (e : m = a ++ (le n x ++ b)) (ha : a.length = p) (hx : x < 256 ^ n) : num m p n = x := by
  subst e; unfold num; rw [← ha, List.drop_left, List.take_left' (le_length n x), fromLe_le n x hx]
theorem openUn_n (v : Value) (l : List UInt8) (w : World) (ht : Tab w) (hv : RdB w v l) (hlen : l.length ≤ 140737488355328) :
    NewRowT Tryz.prog 38 [v] (fun v => .tuple #[v, .int .i64 (openUnE l)]) 45 2 (openUnL l).length (prC (openUnL l)) w := by
 refine enterD0 Tryz.func38 rfl Tryz.ntmps38 rfl ?_
 simp only [envOf]
 refine tR (At.alloc Tryz.zeroValue25 rfl rfl (fun b1 => (At.alloc Tryz.zeroValue37 rfl rfl (fun b2 => (tE (tR (At.defer rfl (tE (tR (tM rfl rfl (tV (Val.lenRd hv Tryz.underlying29 rfl) rfl (tV (Val.bin rfl rfl rfl) rfl ?_))))))))))))
 refine At.split (t := 10) rfl (fun h3 => ?_) (fun h3 => ?_)
 ·try simp only [vN_T, vN_F, nmE_T, nmE_F, wI_T, wI_F, data_T, data_F, ino_T, ino_F, notT, notF, bneT, bneF, beqT, beqF, decT, decF] at h3
  have hl : l.length = 512 := by omega
  obtain ⟨L, o, c, rfl, hb, hlc, hL⟩ := RdB.some hv (by omega)
  refine At.callP (fun w hw => must_T _ w) Tryz.call72 rfl rfl (tE (tR (tM rfl rfl ?_)))
  refine tV (Val.build (fun a ha => by simp only [List.map_toArray, List.map_cons, List.map_nil, ha.eval (x := (.tmp 12)) rfl] <;> rfl) (bld_145_0 _ _ _ )) rfl (At.alloc Tryz.zeroValue145 rfl rfl (fun b4 => (At.storeAll (i := 0) Tryz.sizeOf145 rfl rfl rfl (by simp [Value.oneCell']) rfl rfl ?_)))
  simp only [sc0, scS]
  refine At.nil ?_
  rw [show ([Value.slice (some ⟨L, o, none⟩) l.length c, Value.int IntKind.i64 0] : List Value) = eyeC L o l.length c 0 from rfl]
  refine At.thenN (tR (At.call1 0 rfl (fun w hw hr => eyeNumber_p _ L o c 0 8 l w hr (hb.mod hw.mod) (hw.newBlk (i := 0) rfl hL) hlc (by omega) (by omega) (by decide)) Tryz.call74 rfl rfl ?_))
  simp only [sc0, scS]
  skip
  ·rw [num_wordA l 0]
   by_cases hs0 : Sl 512 (wordA l 0)
   ·refine At.callP (fun w hw => held_T 512 (wordA l 0) 35 w (ht.mod hw.mod) hs0) Tryz.call73 rfl rfl (tA rfl rfl (At.nil ?_))
    rw [show ((wordA l 0).setWidth 32).toNat = unN l from rfl]
    refine At.thenN (At.seq (tR (tM rfl rfl (tV (Val.bin rfl rfl rfl) rfl (tE ?_)))))
    refine At.cond rfl (fun h5 => ?_) (fun h5 => ?_)
    ·try simp only [vN_T, vN_F, nmE_T, nmE_F, wI_T, wI_F, data_T, data_F, ino_T, ino_F, notT, notF, bneT, bneF, beqT, beqF, decT, decF] at h5
     have h0 : unN l = 0 := by omega
     have hok : OkUn l := ⟨hl, hs0, .inl h0⟩
     refine tR (At.store (i := 2) Tryz.sizeOf25 rfl rfl rfl rfl (by first | decide | simp) ?_)
     simp only [sc0, scS]
     refine At.store (i := 1) Tryz.sizeOf37 rfl rfl rfl rfl (by first | decide | simp) ?_
     simp only [sc0, scS]
     refine tE (At.retC (At.thenR (At.leaveN (.inl rfl) rfl Tryz.call71 (fun w hw => caughtUndos_idle _ _ w) rfl (ResOf.one (i := 2) Tryz.isAgg25 rfl rfl rfl) (ResOf.one (i := 1) Tryz.isAgg37 rfl rfl rfl) (fun w hw => ?_))))
     exact ⟨.slice none 0 0, by rw [openUnE_yes hok], by rw [openUnL_0 hok h0]; exact ((hw.drop (List.nil_sublist _)).f0).nilRow _ _⟩
    ·try simp only [vN_T, vN_F, nmE_T, nmE_F, wI_T, wI_F, data_T, data_F, ino_T, ino_F, notT, notF, bneT, bneF, beqT, beqF, decT, decF] at h5
     have h0 : ¬ unN l = 0 := by omega
     refine At.skipC (At.thenN (tR (tM rfl rfl (tV (Val.bin rfl rfl rfl) rfl ?_))))
     refine At.split (t := 19) rfl (fun h6 => ?_) (fun h6 => ?_)
     ·try simp only [vN_T, vN_F, nmE_T, nmE_F, wI_T, wI_F, data_T, data_F, ino_T, ino_F, notT, notF, bneT, bneF, beqT, beqF, decT, decF] at h6
      have hn8 : unN l ≤ 8 := by omega
      refine At.callP (fun w hw => must_T _ w) Tryz.call72 rfl rfl (tE (tR (At.call1 0 rfl (fun w hw hr => eyeNumber_p _ L o c (0 + 8) 8 l w hr (hb.mod hw.mod) (hw.newBlk (i := 0) rfl hL) hlc (by omega) (by omega) (by decide)) Tryz.call74 rfl rfl ?_)))
      simp only [sc0, scS]
      skip
      ·rw [show (0 : Nat) + 8 = 8 from rfl, num_wordA l 8]
       by_cases hs8 : Sl 520 (wordA l 8)
       ·refine At.callP (fun w hw => held_T 520 (wordA l 8) 35 w (ht.mod hw.mod) hs8) Tryz.call73 rfl rfl (tA rfl rfl (At.nil ?_))
        rw [show ((wordA l 8).setWidth 32).toNat = lo (wordA l 8) from rfl]
        refine At.thenN (tR (tV (Val.field 1 rfl fo_145_1 rfl) rfl ?_))
        refine At.store (i := 0) Tryz.sizeOf3 rfl rfl rfl rfl (by first | (simp; done) | (simp; omega)) ?_
        simp only [sc0, scS]
        refine At.nil ?_
        rw [show ([Value.slice (some ⟨L, o, none⟩) l.length c, Value.int .i64 64] : List Value) = eyeC L o l.length c 64 from rfl]
        refine At.thenN (At.seq ?_)
        have hsl := (sumOn 0 (seg l (unN l))).isLt
        refine At.region (tM rfl rfl (tM rfl rfl ?_))
        first | refine tV (Val.mulI rfl rfl (by omega) (by omega)) rfl ?_ | refine tV (Val.bin rfl rfl rfl) rfl ?_
        first | refine tV (Val.addI rfl rfl (by omega) (by omega)) rfl ?_ | refine tV (Val.bin rfl rfl rfl) rfl ?_
        refine At.cutB (64) (64 + 16 * unN l) hv Tryz.underlying29 Tryz.sizeOf5 rfl ⟨_, _, rfl, by omega, by omega⟩ ⟨_, _, rfl, by omega, by omega⟩ (by omega) (by omega) rfl rfl (fun v7 hv8 => ?_)
        refine At.callP (fun w hw => (by have := sumRd_p v7 _ w (hv8.mod hw.mod) (ht.mod hw.mod) (by simp only [List.length_take, List.length_drop]; omega); rwa [seg_cut] at this)) Tryz.call75 rfl rfl ?_
        first | refine tV (Val.toI Tryz.underlying106 Tryz.underlying3 rfl (by omega) (by omega)) rfl ?_ | refine tV (Val.conv Tryz.underlying106 Tryz.underlying3 rfl) rfl ?_
        refine tM rfl rfl (tV (Val.bin rfl rfl rfl) rfl ?_)
        refine At.split (t := 32) rfl (fun h9 => ?_) (fun h9 => ?_)
        ·try simp only [vN_T, vN_F, nmE_T, nmE_F, wI_T, wI_F, data_T, data_F, ino_T, ino_F, notT, notF, bneT, bneF, beqT, beqF, decT, decF] at h9
         have hseal := seal_of hs8 (show (sumOn 0 (seg l (unN l))).toNat = lo (wordA l 8) by omega)
         refine At.callP (fun w hw => must_T _ w) Tryz.call72 rfl rfl (At.nil (At.rowNilP 45 (At.thenN (At.seq (tR (tM rfl rfl (tM rfl rfl (tE (At.block ?_)))))))))
         skip
         refine At.loop (σ := Nat × Value) (fun s => s.1 ≤ unN l ∧ ∀ j, j < s.1 → num l (64 + 16 * j) 8 < 4294967296) (fun s => [(2, .pointer (some ⟨b1, 0, none⟩)), (3, .pointer (some ⟨b2, 0, none⟩)), (4, .pointer (some ⟨b4, 0, none⟩)), (34, .int .i64 (unN l : Int)), (35, .int .i64 (s.1 : Int))]) (fun s => [prow 45 s.2 (recs l s.1), blk b4 145 (eyeC L o l.length c (64 + 16 * s.1)), blk b2 37 [.int .i64 0], blk b1 25 [s.2]]) (fun s => unN l - s.1) (0, .slice none 0 0) ⟨Nat.zero_le _, fun j h => absurd h (Nat.not_lt_zero _)⟩ (Sub.cons rfl (Sub.cons rfl (Sub.cons rfl (Sub.cons rfl (Sub.cons rfl Sub.nil))))) (List.Perm.refl _) ?_
         intro s hs
         obtain ⟨k, vk⟩ := s
         dsimp only at hs ⊢
         refine tR (tV (Val.bin rfl rfl rfl) rfl (tE (At.seq ?_)))
         refine At.cond rfl (fun h10 => ?_) (fun h10 => ?_)
         ·try simp only [vN_T, vN_F, nmE_T, nmE_F, wI_T, wI_F, data_T, data_F, ino_T, ino_F, notT, notF, bneT, bneF, beqT, beqF, decT, decF] at h10
          have hk : k < unN l := by omega
          refine At.skipC (At.thenN (At.seq (At.block (tR (At.call1 1 rfl (fun w hw hr => eyeNumber_p _ L o c (64 + 16 * k) 8 l w hr (hb.mod hw.mod) (hw.newBlk (i := 1) rfl hL) hlc (by omega) (by omega) (by decide)) Tryz.call74 rfl rfl ?_)))))
          simp only [sc0, scS]
          refine tA rfl rfl (tE (tR (tM rfl rfl (tV (Val.bin rfl rfl rfl) rfl ?_))))
          refine At.split (t := 39) rfl (fun h11 => ?_) (fun h11 => ?_)
          ·try simp only [vN_T, vN_F, nmE_T, nmE_F, wI_T, wI_F, data_T, data_F, ino_T, ino_F, notT, notF, bneT, bneF, beqT, beqF, decT, decF] at h11
           have hlt : num l (64 + 16 * k) 8 < 4294967296 := by omega
           refine At.callP (fun w hw => must_T _ w) Tryz.call72 rfl rfl (tE ?_)
           apply At.any (t := 7)
           · rfl
           refine KAt.pin (fun w hw => hw.drop (List.Sublist.cons _ (List.Sublist.cons _ (List.Sublist.cons _ (List.Sublist.cons_cons _ (List.Sublist.refl _)))))) (KAt.take 0 (Val.load (i := 0) Tryz.isAgg25 rfl rfl rfl) rfl rfl rfl rfl (fun w hw => hw.drop (List.Sublist.cons _ (List.Sublist.cons _ (List.Sublist.cons _ (List.Sublist.cons_cons _ (List.Sublist.refl _)))))) (by decide +kernel) (KAt.take 1 (Val.move rfl) rfl rfl rfl rfl (fun w hw => hw.drop (List.Sublist.cons _ (List.Sublist.cons _ (List.Sublist.cons _ (List.Sublist.cons_cons _ (List.Sublist.refl _)))))) (by decide +kernel) ?_))
           first | refine KAt.take 2 (Val.toI Tryz.underlying43 Tryz.underlying3 rfl (by omega) (by omega)) rfl rfl rfl rfl (fun w hw => hw.drop (List.Sublist.cons _ (List.Sublist.cons _ (List.Sublist.cons _ (List.Sublist.cons_cons _ (List.Sublist.refl _)))))) (by decide +kernel) ?_ | refine KAt.take 2 (Val.conv Tryz.underlying43 Tryz.underlying3 rfl) rfl rfl rfl rfl (fun w hw => hw.drop (List.Sublist.cons _ (List.Sublist.cons _ (List.Sublist.cons _ (List.Sublist.cons_cons _ (List.Sublist.refl _)))))) (by decide +kernel) ?_
           refine KAt.only 3 rfl (by decide +kernel) (At.call1 1 rfl (fun w hw hr => eyeNumber_p _ L o c (64 + 16 * k + 8) 8 l w hr (hb.mod hw.mod) (hw.newBlk (i := 1) rfl hL) hlc (by omega) (by omega) (by decide)) Tryz.call74 rfl rfl ?_)
           simp only [sc0, scS]
           rw [num_wordA l (64 + 16 * k + 8)]
           refine At.nil (KAt.go (fun w hw => hw.drop (List.Sublist.cons _ (List.Sublist.cons _ (List.Sublist.cons _ (List.Sublist.cons_cons _ (List.Sublist.refl _)))))) ?_)
           refine KAt.take 4 (Val.build (fun a ha => by simp only [List.map_toArray, List.map_cons, List.map_nil, ha.eval (x := (.tmp 43)) rfl, ha.eval (x := (.tmp 44)) rfl] <;> rfl) (bld_45_0_1 _ _ )) rfl rfl rfl rfl (fun w hw => hw.drop (List.Sublist.cons _ (List.Sublist.cons _ (List.Sublist.cons _ (List.Sublist.cons_cons _ (List.Sublist.refl _)))))) (by decide +kernel) (KAt.only 5 rfl (by decide +kernel) (At.buildSl (fun a ha => by simp only [List.map_toArray, List.map_cons, List.map_nil, ha.eval (x := (.tmp 45)) rfl]; try rfl) (bs_25_1 _ _ ) rfl (fun b12 => (At.nil (KAt.go (fun w hw => hw.drop (List.Sublist.cons _ (List.Sublist.cons _ (List.Sublist.cons _ (List.Sublist.cons _ (List.Sublist.cons_cons _ (List.Sublist.refl _))))))) (KAt.only 6 rfl (by decide +kernel) ?_))))))
           refine At.appendP1 (i := 1) (j := 0) (by_ := 16) Tryz.underlying25 info_45 rfl rfl rfl rfl rfl rfl rfl rfl (by rw [recs_length]; omega) (by rw [recs_length]; omega) rfl (fun v13 => ?_)
           simp only [sc0, scS]
           refine At.drop 0 ?_
           simp only [ec0, ecS]
           refine At.nil (KAt.go (fun w hw => hw.drop (List.Sublist.cons _ (List.Sublist.cons _ (List.Sublist.cons _ (List.Sublist.cons_cons _ (List.Sublist.refl _)))))) (KAt.only 7 rfl (by decide +kernel) (At.rowOne (i := 0) rfl (fun ho14 => (At.store (i := 3) Tryz.sizeOf25 rfl rfl ho14 rfl (by first | decide | simp) ?_)))))
           simp only [sc0, scS]
           refine At.nil (KAt.goT rfl (KAt.done (by decide +kernel) (At.blkN (At.thenN (At.region ?_)))))
           first | refine tV (Val.addI rfl rfl (by omega) (by omega)) rfl ?_ | refine tV (Val.bin rfl rfl rfl) rfl ?_
           refine tM rfl rfl (tE ?_)
           exact At.again (k + 1, v13) ⟨by dsimp only; omega, fun j hj => by rcases Nat.lt_or_ge j k with h | h; exact hs.2 j h; obtain rfl : k = j := (by dsimp only at hj; omega); assumption⟩ (by dsimp only; omega) (Sub.cons rfl (Sub.cons rfl (Sub.cons rfl (Sub.cons rfl (Sub.cons (congrArg (fun z => some (Value.int IntKind.i64 z)) (by omega)) Sub.nil))))) (by rw [recs_succ, show 64 + 16 * (k + 1) = 64 + 16 * k + 8 + 8 from by omega])
          ·try simp only [vN_T, vN_F, nmE_T, nmE_F, wI_T, wI_F, data_T, data_F, ino_T, ino_F, notT, notF, bneT, bneF, beqT, beqF, decT, decF] at h11
           have hno : ¬ OkUn l := fun h => by have := h.at hk; omega
           refine At.callT0 (fun w hw => must_F _ w) Tryz.call72 rfl (At.thenE (At.blkE (At.thenE (At.thenE (At.blkE (At.thenE (At.leaveP rfl Tryz.call71 ((erase_perm _ 3 _ rfl).trans (List.Perm.cons _ (erase_perm _ 2 _ rfl))) (fun w hw => caughtUndos_pan _ _ _ _ _ w (hw.blk (i := 0) rfl) rfl (hw.blk (i := 1) rfl) hw.ne01) rfl (ResOf.one (i := 0) Tryz.isAgg25 rfl rfl rfl) (ResOf.one (i := 1) Tryz.isAgg37 rfl rfl rfl) (fun w hw => ?_))))))))
           exact ⟨.slice none 0 0, by rw [openUnE_no hno], by rw [openUnL_no hno]; exact ((hw.drop (List.nil_sublist _)).f0).nilRow _ _⟩
         ·try simp only [vN_T, vN_F, nmE_T, nmE_F, wI_T, wI_F, data_T, data_F, ino_T, ino_F, notT, notF, bneT, bneF, beqT, beqF, decT, decF] at h10
          obtain rfl : k = unN l := by omega
          refine At.exitC (At.thenX (At.thenX (At.blkX (At.thenN (tR (tV (Val.load (i := 3) Tryz.isAgg25 rfl rfl rfl) rfl ?_))))))
          refine At.callP (fun w hw => goodUn_p _ (recs l (unN l)) w (row_rd (hw.row (i := 0) rfl) (by decide)) (by rw [recs_length]; omega) (recs_bd hs.2)) Tryz.call76 rfl rfl ?_
          refine At.split (t := 50) rfl (fun h15 => ?_) (fun h15 => ?_)
          ·try simp only [vN_T, vN_F, nmE_T, nmE_F, wI_T, wI_F, data_T, data_F, ino_T, ino_F, notT, notF, bneT, bneF, beqT, beqF, decT, decF] at h15
           have hgun : GoodUn (recs l (unN l)) := by simpa using h15
           have hok : OkUn l := ⟨hl, hs0, .inr ⟨hn8, hseal, hgun⟩⟩
           refine At.callP (fun w hw => must_T _ w) Tryz.call72 rfl rfl (tE (tR (tV (Val.load (i := 3) Tryz.isAgg25 rfl rfl rfl) rfl (At.rowOne (i := 0) rfl (fun ho16 => (At.store (i := 3) Tryz.sizeOf25 rfl rfl ho16 rfl (by first | decide | simp) ?_))))))
           simp only [sc0, scS]
           refine At.store (i := 2) Tryz.sizeOf37 rfl rfl rfl rfl (by first | decide | simp) ?_
           simp only [sc0, scS]
           refine tE (At.retC (At.leaveN (.inl rfl) rfl Tryz.call71 (fun w hw => caughtUndos_idle _ _ w) rfl (ResOf.one (i := 3) Tryz.isAgg25 rfl rfl rfl) (ResOf.one (i := 2) Tryz.isAgg37 rfl rfl rfl) (fun w hw => ?_)))
           exact ⟨vk, by rw [openUnE_yes hok], by rw [openUnL_yes hok]; exact (hw.drop (List.singleton_sublist.2 (List.mem_of_getElem? (i := 0) rfl))).f0⟩
          ·try simp only [vN_T, vN_F, nmE_T, nmE_F, wI_T, wI_F, data_T, data_F, ino_T, ino_F, notT, notF, bneT, bneF, beqT, beqF, decT, decF] at h15
           have hno : ¬ OkUn l := fun h => absurd (h.two h0).2.2 (by simpa using h15)
           refine At.callT0 (fun w hw => must_F _ w) Tryz.call72 rfl (At.thenE (At.leaveP rfl Tryz.call71 ((erase_perm _ 3 _ rfl).trans (List.Perm.cons _ (erase_perm _ 2 _ rfl))) (fun w hw => caughtUndos_pan _ _ _ _ _ w (hw.blk (i := 0) rfl) rfl (hw.blk (i := 1) rfl) hw.ne01) rfl (ResOf.one (i := 0) Tryz.isAgg25 rfl rfl rfl) (ResOf.one (i := 1) Tryz.isAgg37 rfl rfl rfl) (fun w hw => ?_)))
           exact ⟨.slice none 0 0, by rw [openUnE_no hno], by rw [openUnL_no hno]; exact ((hw.drop (List.nil_sublist _)).f0).nilRow _ _⟩
        ·try simp only [vN_T, vN_F, nmE_T, nmE_F, wI_T, wI_F, data_T, data_F, ino_T, ino_F, notT, notF, bneT, bneF, beqT, beqF, decT, decF] at h9
         have hno : ¬ OkUn l := fun h => by have := (seal_lo (h.two h0).2.1).2; omega
         refine At.callT0 (fun w hw => must_F _ w) Tryz.call72 rfl (At.thenE (At.leaveP rfl Tryz.call71 ((erase_perm _ 2 _ rfl).trans (List.Perm.cons _ (erase_perm _ 1 _ rfl))) (fun w hw => caughtUndos_pan _ _ _ _ _ w (hw.blk (i := 0) rfl) rfl (hw.blk (i := 1) rfl) hw.ne01) rfl (ResOf.one (i := 0) Tryz.isAgg25 rfl rfl rfl) (ResOf.one (i := 1) Tryz.isAgg37 rfl rfl rfl) (fun w hw => ?_)))
         exact ⟨.slice none 0 0, by rw [openUnE_no hno], by rw [openUnL_no hno]; exact ((hw.drop (List.nil_sublist _)).f0).nilRow _ _⟩
       ·have hno : ¬ OkUn l := fun h => hs8 (seal_lo (h.two h0).2.1).1
        refine At.callT0 (fun w hw => held_F 520 (wordA l 8) 35 w (ht.mod hw.mod) hs8) Tryz.call73 rfl (At.thenE (At.leaveP rfl Tryz.call71 ((erase_perm _ 2 _ rfl).trans (List.Perm.cons _ (erase_perm _ 1 _ rfl))) (fun w hw => caughtUndos_pan _ _ _ _ _ w (hw.blk (i := 0) rfl) rfl (hw.blk (i := 1) rfl) hw.ne01) rfl (ResOf.one (i := 0) Tryz.isAgg25 rfl rfl rfl) (ResOf.one (i := 1) Tryz.isAgg37 rfl rfl rfl) (fun w hw => ?_)))
        exact ⟨.slice none 0 0, by rw [openUnE_no hno], by rw [openUnL_no hno]; exact ((hw.drop (List.nil_sublist _)).f0).nilRow _ _⟩
     ·try simp only [vN_T, vN_F, nmE_T, nmE_F, wI_T, wI_F, data_T, data_F, ino_T, ino_F, notT, notF, bneT, bneF, beqT, beqF, decT, decF] at h6
      have hno : ¬ OkUn l := fun h => by have := (h.two h0).1; omega
      refine At.callT0 (fun w hw => must_F _ w) Tryz.call72 rfl (At.thenE (At.leaveP rfl Tryz.call71 ((erase_perm _ 2 _ rfl).trans (List.Perm.cons _ (erase_perm _ 1 _ rfl))) (fun w hw => caughtUndos_pan _ _ _ _ _ w (hw.blk (i := 0) rfl) rfl (hw.blk (i := 1) rfl) hw.ne01) rfl (ResOf.one (i := 0) Tryz.isAgg25 rfl rfl rfl) (ResOf.one (i := 1) Tryz.isAgg37 rfl rfl rfl) (fun w hw => ?_)))
      exact ⟨.slice none 0 0, by rw [openUnE_no hno], by rw [openUnL_no hno]; exact ((hw.drop (List.nil_sublist _)).f0).nilRow _ _⟩
   ·have hno : ¬ OkUn l := fun h => hs0 h.2.1
    refine At.callT0 (fun w hw => held_F 512 (wordA l 0) 35 w (ht.mod hw.mod) hs0) Tryz.call73 rfl (At.thenE (At.leaveP rfl Tryz.call71 ((erase_perm _ 2 _ rfl).trans (List.Perm.cons _ (erase_perm _ 1 _ rfl))) (fun w hw => caughtUndos_pan _ _ _ _ _ w (hw.blk (i := 0) rfl) rfl (hw.blk (i := 1) rfl) hw.ne01) rfl (ResOf.one (i := 0) Tryz.isAgg25 rfl rfl rfl) (ResOf.one (i := 1) Tryz.isAgg37 rfl rfl rfl) (fun w hw => ?_)))
    exact ⟨.slice none 0 0, by rw [openUnE_no hno], by rw [openUnL_no hno]; exact ((hw.drop (List.nil_sublist _)).f0).nilRow _ _⟩
 ·try simp only [vN_T, vN_F, nmE_T, nmE_F, wI_T, wI_F, data_T, data_F, ino_T, ino_F, notT, notF, bneT, bneF, beqT, beqF, decT, decF] at h3
  have hno : ¬ OkUn l := fun h => by have := h.1; omega
  refine At.callT0 (fun w hw => must_F _ w) Tryz.call72 rfl (At.thenE (At.leaveP rfl Tryz.call71 ((erase_perm _ 1 _ rfl).trans (List.Perm.cons _ (erase_perm _ 0 _ rfl))) (fun w hw => caughtUndos_pan _ _ _ _ _ w (hw.blk (i := 0) rfl) rfl (hw.blk (i := 1) rfl) hw.ne01) rfl (ResOf.one (i := 0) Tryz.isAgg25 rfl rfl rfl) (ResOf.one (i := 1) Tryz.isAgg37 rfl rfl rfl) (fun w hw => ?_)))
  exact ⟨.slice none 0 0, by rw [openUnE_no hno], by rw [openUnL_no hno]; exact ((hw.drop (List.nil_sublist _)).f0).nilRow _ _⟩
end Go.Proofs.YtfchinibjhcejaaGreatDoor
namespace Go.Proofs.YtfchinibjhcejaaGreatDoor
open Go Go.Wk
end Go.Proofs.YtfchinibjhcejaaGreatDoor
namespace Go.Proofs.YtfchinibjhcejaaGreatDoor
open Go Go.Wk
end Go.Proofs.YtfchinibjhcejaaGreatDoor
namespace Go.Proofs.YtfchinibjhcejaaGreatDoor
open Go Go.Wk
def packSupV (p i c : Int) : Value := if GoodSup p i c then .tuple #[lineV (superB p.toNat i.toNat c.toNat), .int .i64 0] else .tuple #[zline, .int .i64 30]
theorem packSup_yes {p i c : Int} (h : GoodSup p i c) : packSupV p i c = .tuple #[lineV (superB p.toNat i.toNat c.toNat), .int .i64 0] := if_pos h
theorem packSup_no {p i c : Int} (h : ¬ GoodSup p i c) : packSupV p i c = .tuple #[zline, .int .i64 30] := if_neg h
theorem lineV_length {b : List UInt8} (h : b.length ≤ 60) : ((lineL b).map bv).length = 64 := by rw [List.length_map]; exact lineL_length h
theorem packSupR_p (p i c : Int) (w : World) (hp : -9223372036854775808 ≤ p ∧ p ≤ 9223372036854775807) :
    PureC Tryz.prog 36 [.agg #[.int .i64 p, .int .i64 i, .int .i64 c]] (packSupV p i c) w := by
 refine enter0 Tryz.func36 rfl Tryz.ntmps36 rfl ?_
 simp only [envOf]
 refine tR (At.box rfl rfl rfl (fun b1 => (At.alloc zero_82 zc_82 rfl (fun b2 => (tA rfl rfl (tE (At.seq (tR (tV (Val.loadAll (i := 1) Tryz.isAgg23 Tryz.sizeOf23 rfl rfl rfl) rfl (At.callP (fun w hw => goodSup_p _ _ _ w hp) Tryz.call61 rfl rfl (tV (Val.not rfl) rfl (tE ?_))))))))))))
 refine At.cond rfl (fun h3 => ?_) (fun h3 => ?_)
 ·have hg : ¬ GoodSup p i c := by simpa using h3
  refine tR ?_
  refine tV (Val.build (fun a ha => by simp only [List.map_toArray, List.map_cons, List.map_nil] <;> rfl) (bld_82_)) rfl (At.storeAll (i := 0) Tryz.sizeOf82 rfl rfl rfl (by simp [Value.oneCell']) rfl (by simp) ?_)
  simp only [sc0, scS]
  refine tA rfl rfl (tE (At.retC (At.thenR (At.ret2 (.inl rfl) rfl rfl (ResOf.all (i := 0) Tryz.isAgg82 Tryz.sizeOf82 rfl rfl (by simp)) rfl (fun w hw => ?_)))))
  exact ⟨by rw [packSup_no hg]; rfl, hw.mod⟩
 ·have hg : GoodSup p i c := by simpa using h3
  have hg' := hg
  unfold GoodSup at hg'
  refine At.skipC (At.thenN (tR (tA rfl rfl (tE (tR (tM rfl rfl (At.rowNil 5 1 (At.callR 0 rfl (fun w hw hr => letters_p _ [] ⟨#[70, 85, 82, 82, 79, 87, 48, 49]⟩ w hr (by decide)) Tryz.call67 rfl rfl (fun v4 => ?_)))))))))
  simp only [sc0, scS]
  refine tA rfl rfl (tE (tR (tM rfl rfl (tV (Val.field 0 rfl fo_23_0 rfl) rfl (tV (Val.load (i := 2) Tryz.isAgg3 rfl rfl rfl) rfl (tV (Val.conv Tryz.underlying3 Tryz.underlying43 rfl) rfl ?_))))))
  rw [toU64 (n := p) (by omega) (by omega)]
  refine At.callR 0 rfl (fun w hw hr => rlay_p _ ([] ++ [70, 85, 82, 82, 79, 87, 48, 49]) p.toNat 4 w hr (by omega) (by decide) (by simp [le_length])) Tryz.call63 rfl rfl (fun v5 => ?_)
  simp only [sc0, scS]
  refine tA rfl rfl (tE (tR (tM rfl rfl (tV (Val.field 1 rfl fo_23_1 rfl) rfl (tV (Val.load (i := 2) Tryz.isAgg3 rfl rfl rfl) rfl (tV (Val.conv Tryz.underlying3 Tryz.underlying43 rfl) rfl ?_))))))
  rw [toU64 (n := i) (by omega) (by omega)]
  refine At.callR 0 rfl (fun w hw hr => rlay_p _ ([] ++ [70, 85, 82, 82, 79, 87, 48, 49] ++ le 4 p.toNat) i.toNat 4 w hr (by omega) (by decide) (by simp [le_length])) Tryz.call63 rfl rfl (fun v6 => ?_)
  simp only [sc0, scS]
  refine tA rfl rfl (tE (tR (tM rfl rfl (tV (Val.field 2 rfl fo_23_2 rfl) rfl (tV (Val.load (i := 2) Tryz.isAgg3 rfl rfl rfl) rfl (tV (Val.conv Tryz.underlying3 Tryz.underlying43 rfl) rfl ?_))))))
  rw [toU64 (n := c) (by omega) (by omega)]
  refine At.callR 0 rfl (fun w hw hr => rlay_p _ ([] ++ [70, 85, 82, 82, 79, 87, 48, 49] ++ le 4 p.toNat ++ le 4 i.toNat) c.toNat 4 w hr (by omega) (by decide) (by simp [le_length])) Tryz.call63 rfl rfl (fun v7 => ?_)
  simp only [sc0, scS]
  refine tA rfl rfl (tE (tR (tM rfl rfl ?_)))
  refine At.callU 0 rfl (fun w hw hr => line_p _ (superB p.toNat i.toNat c.toNat) w hr (by rw [superB_length]; decide)) Tryz.call68 rfl rfl ?_
  simp only [ec0, ecS]
  refine At.alloc zero_82 zc_82 rfl (fun b8 => ?_)
  refine At.storeAll (i := 0) Tryz.sizeOf82 rfl rfl (lineV_length (by rw [superB_length]; decide)) (by simp [Value.oneCell']) rfl (by simp) ?_
  simp only [sc0, scS]
  refine tE (tR ?_)
  refine tV (Val.loadAll (i := 0) Tryz.isAgg82 Tryz.sizeOf82 rfl rfl (lineV_length (by rw [superB_length]; decide))) rfl ?_
  refine At.storeAll (i := 1) Tryz.sizeOf82 rfl rfl (lineV_length (by rw [superB_length]; decide)) (by simp [Value.oneCell']) rfl (by simp) ?_
  simp only [sc0, scS]
  refine tA rfl rfl (tE (At.retC ?_))
  refine At.ret2 (.inl rfl) rfl rfl (ResOf.all (i := 1) Tryz.isAgg82 Tryz.sizeOf82 rfl rfl (lineV_length (by rw [superB_length]; decide))) rfl (fun w hw => ?_)
  exact ⟨by rw [packSup_yes hg]; rfl, hw.mod⟩
end Go.Proofs.YtfchinibjhcejaaGreatDoor
namespace Go.Proofs.YtfchinibjhcejaaGreatDoor
open Go Go.Wk
def OkSup (l : List UInt8) : Prop := GoodSup (num l 8 4 : Nat) (num l 12 4 : Nat) (num l 16 4 : Nat) ∧ SupLine l
instance (l : List UInt8) : Decidable (OkSup l) := by unfold OkSup; infer_instance
def openSupV (l : List UInt8) : Value := if OkSup l then .tuple #[.agg #[.int .i64 (num l 8 4 : Nat), .int .i64 (num l 12 4 : Nat), .int .i64 (num l 16 4 : Nat)], .int .i64 0] else .tuple #[.agg #[.int .i64 0, .int .i64 0, .int .i64 0], .int .i64 31]
theorem openSup_yes {l : List UInt8} (h : OkSup l) : openSupV l = .tuple #[.agg #[.int .i64 (num l 8 4 : Nat), .int .i64 (num l 12 4 : Nat), .int .i64 (num l 16 4 : Nat)], .int .i64 0] := if_pos h
theorem openSup_no {l : List UInt8} (h : ¬ OkSup l) : openSupV l = .tuple #[.agg #[.int .i64 0, .int .i64 0, .int .i64 0], .int .i64 31] := if_neg h
theorem openSup_p (l : List UInt8) (w : World) (ht : Tab w) (hl : l.length = 64) :
    PureC Tryz.prog 69 [.agg (l.map bv).toArray] (openSupV l) w := by
 refine enterD0 Tryz.func69 rfl Tryz.ntmps69 rfl ?_
 have hline := supLine_iff hl
 simp only [envOf]
 refine tR (At.box rfl rfl rfl (fun b1 => (At.alloc Tryz.zeroValue23 rfl rfl (fun b2 => (At.alloc Tryz.zeroValue37 rfl rfl (fun b3 => (tE (tR (At.defer rfl (tE (tR ?_)))))))))))
 refine tV (Val.loadAll (i := 2) Tryz.isAgg82 Tryz.sizeOf82 rfl rfl (by rw [List.length_map]; exact hl)) rfl (At.callP (fun w hw => whole_p _ w hl (ht.mod hw.mod)) Tryz.call104 rfl rfl ?_)
 refine At.split (t := 8) rfl (fun h4 => ?_) (fun h4 => ?_)
 ·have hwhole := h4
  refine At.callP (fun w hw => must_T _ w) Tryz.call72 rfl rfl (tE (tR (tV (Val.cutArr 0 64 0 l.length 64 Tryz.underlying82 Tryz.sizeOf5 rfl rfl rfl (by decide) (by decide) rfl (by omega) rfl) rfl ?_)))
  refine tV (Val.build (fun a ha => by simp only [List.map_toArray, List.map_cons, List.map_nil, ha.eval (x := (.tmp 10)) rfl] <;> rfl) (bld_145_0 _ _ _ )) rfl (At.alloc Tryz.zeroValue145 rfl rfl (fun b5 => (At.storeAll (i := 0) Tryz.sizeOf145 rfl rfl rfl (by simp [Value.oneCell']) rfl rfl ?_)))
  simp only [sc0, scS]
  refine At.nil ?_
  rw [show ([Value.slice (some ⟨b1, 0, none⟩) l.length 64, Value.int IntKind.i64 0] : List Value) = eyeC b1 0 l.length 64 0 from rfl]
  refine At.thenN (tR ?_)
  by_cases hq : (l.drop 0).take 8 = mark1
  ·have hmark := hq
   refine At.call1 0 rfl (fun w hw hr => eyeText_T _ b1 0 64 0 l ⟨#[70, 85, 82, 82, 79, 87, 48, 49]⟩ 31 w hr (hw.blk (i := 3) rfl).bytes' (hw.apart 3 0 rfl rfl (by decide)) (by omega) (by omega) (by rw [hl]; decide) hq) Tryz.call105 rfl rfl ?_
   simp only [sc0, scS]
   refine At.nil ?_
   skip
   refine At.thenN (tR (At.call1 0 rfl (fun w hw hr => eyeHalf_p _ b1 0 64 8 l w hr (hw.blk (i := 3) rfl).bytes' (hw.apart 3 0 rfl rfl (by decide)) (by omega) (by omega) (by omega)) Tryz.call106 rfl rfl ?_))
   simp only [sc0, scS]
   refine At.call1 0 rfl (fun w hw hr => eyeHalf_p _ b1 0 64 12 l w hr (hw.blk (i := 3) rfl).bytes' (hw.apart 3 0 rfl rfl (by decide)) (by omega) (by omega) (by omega)) Tryz.call106 rfl rfl ?_
   simp only [sc0, scS]
   refine At.call1 0 rfl (fun w hw hr => eyeHalf_p _ b1 0 64 16 l w hr (hw.blk (i := 3) rfl).bytes' (hw.apart 3 0 rfl rfl (by decide)) (by omega) (by omega) (by omega)) Tryz.call106 rfl rfl ?_
   simp only [sc0, scS]
   refine tV (Val.build (fun a ha => by simp only [List.map_toArray, List.map_cons, List.map_nil, ha.eval (x := (.tmp 13)) rfl, ha.eval (x := (.tmp 14)) rfl, ha.eval (x := (.tmp 15)) rfl] <;> rfl) (bld_23_0_1_2 _ _ _ )) rfl (At.storeAll (i := 2) Tryz.sizeOf23 rfl rfl rfl (by simp [Value.oneCell']) rfl rfl ?_)
   simp only [sc0, scS]
   refine tE (tR ?_)
   by_cases hq : allZero ((l.drop 20).take 40)
   ·have hzero := hq
    refine At.call1 0 rfl (fun w hw hr => eyeZeros_T _ b1 0 64 20 40 l 31 w hr (hw.blk (i := 3) rfl).bytes' (hw.apart 3 0 rfl rfl (by decide)) (by omega) (by omega) (by rw [hl]; decide) hq) Tryz.call107 rfl rfl ?_
    simp only [sc0, scS]
    refine tE (tR (tV (Val.loadAll (i := 2) Tryz.isAgg23 Tryz.sizeOf23 rfl rfl rfl) rfl (At.callP (fun w hw => fit_p _ _ _ w) Tryz.call70 rfl rfl ?_)))
    by_cases hg : GoodSup (num l 8 4 : Nat) (num l 12 4 : Nat) (num l 16 4 : Nat)
    ·rw [fit_yes hg]
     refine tM rfl rfl (tV (Val.extract rfl rfl) rfl (tV (Val.extract rfl rfl) rfl (At.alloc Tryz.zeroValue31 rfl rfl (fun b6 => (At.storeAll (i := 0) Tryz.sizeOf31 rfl rfl rfl (by simp [Value.oneCell']) rfl rfl ?_)))))
     simp only [sc0, scS]
     refine tA rfl rfl (tE (tR (tM rfl rfl (tV (Val.bin rfl rfl rfl) rfl (At.callP (fun w hw => must_T _ w) Tryz.call72 rfl rfl (tE (tR (tV (Val.loadAll (i := 3) Tryz.isAgg23 Tryz.sizeOf23 rfl rfl rfl) rfl (At.storeAll (i := 3) Tryz.sizeOf23 rfl rfl rfl (by simp [Value.oneCell']) rfl rfl ?_)))))))))
     simp only [sc0, scS]
     refine At.store (i := 2) Tryz.sizeOf37 rfl rfl rfl rfl (by first | decide | simp) ?_
     simp only [sc0, scS]
     refine tE (At.retC (At.leaveN (.inl rfl) rfl Tryz.call103 (fun w hw => caughtSuper_idle _ _ w) rfl (ResOf.all (i := 3) Tryz.isAgg23 Tryz.sizeOf23 rfl rfl rfl) (ResOf.one (i := 2) Tryz.isAgg37 rfl rfl rfl) (fun w hw => ?_)))
     exact ⟨by rw [openSup_yes ⟨hg, hline.2 ⟨hwhole, hmark, hzero⟩⟩], hw.mod⟩
    ·rw [fit_no hg]
     have hno : ¬ OkSup l := fun h => hg h.1
     refine tM rfl rfl (tV (Val.extract rfl rfl) rfl (tV (Val.extract rfl rfl) rfl (At.alloc Tryz.zeroValue31 rfl rfl (fun b7 => (At.storeAll (i := 0) Tryz.sizeOf31 rfl rfl rfl (by simp [Value.oneCell']) rfl rfl ?_)))))
     simp only [sc0, scS]
     refine tA rfl rfl (tE (tR (tM rfl rfl (tV (Val.bin rfl rfl rfl) rfl (At.callT0 (fun w hw => must_F _ w) Tryz.call72 rfl (At.thenE (At.leaveP rfl Tryz.call103 ((erase_perm _ 3 _ rfl).trans (List.Perm.cons _ (erase_perm _ 2 _ rfl))) (fun w hw => caughtSuper_pan _ _ _ _ _ w (hw.blk (i := 0) rfl) rfl (hw.blk (i := 1) rfl) hw.ne01) rfl (ResOf.all (i := 0) Tryz.isAgg23 Tryz.sizeOf23 rfl rfl rfl) (ResOf.one (i := 1) Tryz.isAgg37 rfl rfl rfl) (fun w hw => ?_))))))))
     exact ⟨by rw [openSup_no hno], hw.mod⟩
   ·have hno : ¬ OkSup l := fun h => hq (hline.1 h.2).2.2
    refine At.callT1 0 rfl (fun w hw hr => eyeZeros_F _ b1 0 64 20 40 l 31 w hr (hw.blk (i := 3) rfl).bytes' (hw.apart 3 0 rfl rfl (by decide)) (by omega) (by omega) (by rw [hl]; decide) hq) Tryz.call107 rfl ?_
    simp only [ec0, ecS]
    refine At.thenE (At.leaveP rfl Tryz.call103 ((erase_perm _ 1 _ rfl).trans (List.Perm.cons _ (erase_perm _ 0 _ rfl))) (fun w hw => caughtSuper_pan _ _ _ _ _ w (hw.blk (i := 0) rfl) rfl (hw.blk (i := 1) rfl) hw.ne01) rfl (ResOf.all (i := 0) Tryz.isAgg23 Tryz.sizeOf23 rfl rfl rfl) (ResOf.one (i := 1) Tryz.isAgg37 rfl rfl rfl) (fun w hw => ?_))
    exact ⟨by rw [openSup_no hno], hw.mod⟩
  ·have hno : ¬ OkSup l := fun h => hq (hline.1 h.2).2.1
   refine At.callT1 0 rfl (fun w hw hr => eyeText_F _ b1 0 64 0 l ⟨#[70, 85, 82, 82, 79, 87, 48, 49]⟩ 31 w hr (hw.blk (i := 3) rfl).bytes' (hw.apart 3 0 rfl rfl (by decide)) (by omega) (by omega) (by rw [hl]; decide) hq) Tryz.call105 rfl ?_
   simp only [ec0, ecS]
   refine At.thenE (At.leaveP rfl Tryz.call103 ((erase_perm _ 1 _ rfl).trans (List.Perm.cons _ (erase_perm _ 0 _ rfl))) (fun w hw => caughtSuper_pan _ _ _ _ _ w (hw.blk (i := 0) rfl) rfl (hw.blk (i := 1) rfl) hw.ne01) rfl (ResOf.all (i := 0) Tryz.isAgg23 Tryz.sizeOf23 rfl rfl rfl) (ResOf.one (i := 1) Tryz.isAgg37 rfl rfl rfl) (fun w hw => ?_))
   exact ⟨by rw [openSup_no hno], hw.mod⟩
 ·have hno : ¬ OkSup l := fun h => by have h1 := (hline.1 h.2).1; rw [h4] at h1; cases h1
  refine At.callT0 (fun w hw => must_F _ w) Tryz.call72 rfl (At.thenE (At.leaveP rfl Tryz.call103 ((erase_perm _ 1 _ rfl).trans (List.Perm.cons _ (erase_perm _ 0 _ rfl))) (fun w hw => caughtSuper_pan _ _ _ _ _ w (hw.blk (i := 0) rfl) rfl (hw.blk (i := 1) rfl) hw.ne01) rfl (ResOf.all (i := 0) Tryz.isAgg23 Tryz.sizeOf23 rfl rfl rfl) (ResOf.one (i := 1) Tryz.isAgg37 rfl rfl rfl) (fun w hw => ?_)))
  exact ⟨by rw [openSup_no hno], hw.mod⟩
end Go.Proofs.YtfchinibjhcejaaGreatDoor
namespace Go.Proofs.YtfchinibjhcejaaGreatDoor
open Go Go.Wk
def lineAt (l : List UInt8) (k : Nat) : List UInt8 := (l.drop (64 * k)).take 64
theorem lineAt_length {l : List UInt8} {k : Nat} (h : 64 * k + 64 ≤ l.length) : (lineAt l k).length = 64 := by unfold lineAt; rw [List.length_take, List.length_drop]; omega
theorem lineAt_eq {l : List UInt8} {k : Nat} (h : 64 * k + 64 ≤ l.length) : ((l.drop (64 * k)).take (64 * k + 64 - (64 * k))).take 64 = lineAt l k := by unfold lineAt; rw [List.take_take, show min 64 (64 * k + 64 - 64 * k) = 64 by omega]
def HasSup (l : List UInt8) (k : Nat) : Prop := OkSup (lineAt l k) ∧ num (lineAt l k) 8 4 * 512 = l.length
instance (l : List UInt8) (k : Nat) : Decidable (HasSup l k) := by unfold HasSup; infer_instance
def fitAt (l : List UInt8) (k : Nat) : Value := fitV (num (lineAt l k) 8 4 : Nat) (num (lineAt l k) 12 4 : Nat) (num (lineAt l k) 16 4 : Nat)
def findV (l : List UInt8) : Value := if 128 ≤ l.length ∧ HasSup l 0 then fitAt l 0 else if 128 ≤ l.length ∧ HasSup l 1 then fitAt l 1 else .tuple #[.agg #[.int .i64 0, .int .i64 0, .int .i64 0, .int .i64 0], .int .i64 31]
theorem find_at {l : List UInt8} {k : Nat} (hk : k < 2) (h : 128 ≤ l.length) (h1 : HasSup l k) (h2 : ∀ j, j < k → ¬ HasSup l j) : findV l = fitAt l k := by
  match k, hk with
  | 0, _ => exact if_pos ⟨h, h1⟩
  | 1, _ => unfold findV; rw [if_neg (fun q => h2 0 (by omega) q.2), if_pos ⟨h, h1⟩]
theorem find_no {l : List UInt8} (h : 128 ≤ l.length → ∀ j, j < 2 → ¬ HasSup l j) : findV l = .tuple #[.agg #[.int .i64 0, .int .i64 0, .int .i64 0, .int .i64 0], .int .i64 31] := by
  unfold findV; rw [if_neg (fun q => h q.1 0 (by omega) q.2), if_neg (fun q => h q.1 1 (by omega) q.2)]
theorem findI_p (v : Value) (l : List UInt8) (w : World) (ht : Tab w) (hv : RdB w v l) (hlen : l.length ≤ 140737489000000) :
    PureC Tryz.prog 37 [v] (findV l) w := by
 refine enter0 Tryz.func37 rfl Tryz.ntmps37 rfl ?_
 simp only [envOf]
 refine tR (At.alloc Tryz.zeroValue31 rfl rfl (fun b1 => (tA rfl rfl (tE (At.seq (tR (tA rfl rfl (tE (At.block ?_)))))))))
 skip
 refine At.loop (σ := Nat) (fun k => k ≤ 2 ∧ ∀ j, j < k → 128 ≤ l.length ∧ ¬ HasSup l j) (fun k => [(0, v), (2, .pointer (some ⟨b1, 0, none⟩)), (4, .int .i64 (64 * (k : Int)))]) (fun k => [blk b1 31 ([.int .i64 0, .int .i64 0, .int .i64 0, .int .i64 0])]) (fun k => 2 - k) 0 ⟨by omega, fun j h => by omega⟩ (Sub.cons rfl (Sub.cons rfl (Sub.cons rfl Sub.nil))) (List.Perm.refl _) ?_
 intro k hs
 refine At.seq (tR (tM rfl rfl (tV (Val.bin rfl rfl rfl) rfl (tM rfl rfl ?_))))
 refine At.split (t := 9) rfl (fun h2 => ?_) (fun h2 => ?_)
 ·try simp only [vN_T, vN_F, nmE_T, nmE_F, wI_T, wI_F, data_T, data_F, ino_T, ino_F, notT, notF, bneT, bneF, beqT, beqF, decT, decF] at h2
  refine At.yes rfl rfl (tM rfl rfl (At.yes rfl rfl (tV (Val.lenRd hv Tryz.underlying29 rfl) rfl (At.yes rfl rfl (tV (Val.bin rfl rfl rfl) rfl (tV (Val.pickT rfl rfl) rfl (tE ?_)))))))
  refine At.cond rfl (fun h3 => ?_) (fun h3 => ?_)
  ·try simp only [vN_T, vN_F, nmE_T, nmE_F, wI_T, wI_F, data_T, data_F, ino_T, ino_F, notT, notF, bneT, bneF, beqT, beqF, decT, decF] at h3
   have hk : k < 2 := by omega
   have h128 : 128 ≤ l.length := by omega
   have hL := lineAt_length (l := l) (k := k) (by omega)
   have hnum := num_lt (l := lineAt l k) 8 4
   refine At.skipC (At.thenN (At.seq (At.block (tR (tM rfl rfl (tM rfl rfl (tM rfl rfl ?_)))))))
   first | refine tV (Val.addI rfl rfl (by omega) (by omega)) rfl ?_ | refine tV (Val.bin rfl rfl rfl) rfl ?_
   refine At.cutB (64 * k) (64 * k + 64) hv Tryz.underlying29 Tryz.sizeOf5 rfl ⟨_, _, rfl, by omega, by omega⟩ ⟨_, _, rfl, by omega, by omega⟩ (by omega) (by omega) rfl rfl (fun v4 hv5 => ?_)
   refine At.arrB hv5 Tryz.underlying82 rfl (by rw [List.length_take, List.length_drop]; omega) (by decide) rfl rfl (fun b6 o7 hc8 => ?_)
   rw [lineAt_eq (by omega)] at hc8
   refine tV (Val.loadOldPart (vs := ((lineAt l k)).map bv) Tryz.isAgg82 Tryz.sizeOf82 rfl (by rw [List.length_map]; exact hL) hc8 (fun h => h)) rfl (At.callP (fun w hw => openSup_p (lineAt l k) w (ht.mod hw.mod) hL) Tryz.call69 rfl rfl ?_)
   by_cases ho : OkSup (lineAt l k)
   ·rw [openSup_yes ho]
    refine tM rfl rfl (tV (Val.extract rfl rfl) rfl (tV (Val.extract rfl rfl) rfl (At.alloc Tryz.zeroValue23 rfl rfl (fun b9 => (At.storeAll (i := 0) Tryz.sizeOf23 rfl rfl rfl (by simp [Value.oneCell']) rfl rfl ?_)))))
    simp only [sc0, scS]
    refine tA rfl rfl (tE (tR (tM rfl rfl (tV (Val.bin rfl rfl rfl) rfl (tM rfl rfl (At.yes rfl rfl (tV (Val.field 0 rfl fo_23_0 rfl) rfl (At.yes rfl rfl (tV (Val.load (i := 0) Tryz.isAgg3 rfl rfl rfl) rfl (At.yes rfl rfl ?_))))))))))
    first | refine tV (Val.mulI rfl rfl (by omega) (by omega)) rfl ?_ | refine tV (Val.bin rfl rfl rfl) rfl ?_
    refine At.yes rfl rfl (tM rfl rfl (At.yes rfl rfl (tV (Val.lenRd hv Tryz.underlying29 rfl) rfl (At.yes rfl rfl (tV (Val.bin rfl rfl rfl) rfl (tV (Val.pickT rfl rfl) rfl (tE ?_)))))))
    refine At.cond rfl (fun h10 => ?_) (fun h10 => ?_)
    ·try simp only [vN_T, vN_F, nmE_T, nmE_F, wI_T, wI_F, data_T, data_F, ino_T, ino_F, notT, notF, bneT, bneF, beqT, beqF, decT, decF] at h10
     refine tR (tV (Val.loadAll (i := 0) Tryz.isAgg23 Tryz.sizeOf23 rfl rfl rfl) rfl (At.callP (fun w hw => fit_p _ _ _ w) Tryz.call70 rfl rfl ?_))
     have hfit := fit_yes ho.1
     rw [hfit]
     ·refine tV (Val.extract rfl rfl) rfl (tV (Val.extract rfl rfl) rfl (At.storeAll (i := 1) Tryz.sizeOf31 rfl rfl rfl (by simp [Value.oneCell']) rfl rfl ?_))
      simp only [sc0, scS]
      refine tA rfl rfl (tE (At.retC (At.blkR (At.thenR (At.thenR (At.blkR (At.thenR (At.ret2 (.inl rfl) rfl rfl (ResOf.all (i := 1) Tryz.isAgg31 Tryz.sizeOf31 rfl rfl rfl) rfl (fun w hw => ?_)))))))))
      exact ⟨by rw [find_at (k := k) hk h128 ⟨ho, by omega⟩ (fun j hj => (hs.2 j hj).2)]; unfold fitAt; rw [hfit]; rfl, hw.mod⟩
    ·try simp only [vN_T, vN_F, nmE_T, nmE_F, wI_T, wI_F, data_T, data_F, ino_T, ino_F, notT, notF, bneT, bneF, beqT, beqF, decT, decF] at h10
     refine At.skipC (At.blkN (At.thenN (At.region (tM rfl rfl ?_))))
     first | refine tV (Val.addI rfl rfl (by omega) (by omega)) rfl ?_ | refine tV (Val.bin rfl rfl rfl) rfl ?_
     refine tA rfl rfl (tE (At.drop 0 ?_))
     simp only [ec0, ecS]
     exact At.again (k + 1) ⟨by omega, fun j hj => ⟨h128, by rcases Nat.lt_or_ge j k with h | h; exact (hs.2 j h).2; obtain rfl : j = k := (by omega); exact fun q => by first | exact ho q.1 | (have := q.2; omega)⟩⟩ (by omega) (Sub.cons rfl (Sub.cons rfl (Sub.cons (congrArg (fun z => some (Value.int IntKind.i64 z)) (by omega)) Sub.nil))) (List.Perm.refl _)
   ·rw [openSup_no ho]
    refine tM rfl rfl (tV (Val.extract rfl rfl) rfl (tV (Val.extract rfl rfl) rfl (At.alloc Tryz.zeroValue23 rfl rfl (fun b11 => (At.storeAll (i := 0) Tryz.sizeOf23 rfl rfl rfl (by simp [Value.oneCell']) rfl rfl ?_)))))
    simp only [sc0, scS]
    refine tA rfl rfl (tE (tR (tM rfl rfl (tV (Val.bin rfl rfl rfl) rfl (tM rfl rfl (At.no rfl rfl rfl rfl (At.no rfl rfl rfl rfl (At.no rfl rfl rfl rfl (At.no rfl rfl rfl rfl (At.no rfl rfl rfl rfl (At.no rfl rfl rfl rfl (tV (Val.pickF rfl rfl) rfl (tE (At.condF rfl (At.skipC (At.blkN (At.thenN (At.region (tM rfl rfl ?_)))))))))))))))))))
    first | refine tV (Val.addI rfl rfl (by omega) (by omega)) rfl ?_ | refine tV (Val.bin rfl rfl rfl) rfl ?_
    refine tA rfl rfl (tE (At.drop 0 ?_))
    simp only [ec0, ecS]
    exact At.again (k + 1) ⟨by omega, fun j hj => ⟨h128, by rcases Nat.lt_or_ge j k with h | h; exact (hs.2 j h).2; obtain rfl : j = k := (by omega); exact fun q => by first | exact ho q.1 | (have := q.2; omega)⟩⟩ (by omega) (Sub.cons rfl (Sub.cons rfl (Sub.cons (congrArg (fun z => some (Value.int IntKind.i64 z)) (by omega)) Sub.nil))) (List.Perm.refl _)
  ·try simp only [vN_T, vN_F, nmE_T, nmE_F, wI_T, wI_F, data_T, data_F, ino_T, ino_F, notT, notF, bneT, bneF, beqT, beqF, decT, decF] at h3
   refine At.exitC (At.thenX (At.thenX (At.blkX (At.thenN (tR ?_)))))
   refine tV (Val.build (fun a ha => by simp only [List.map_toArray, List.map_cons, List.map_nil] <;> rfl) (bld_31_)) rfl (At.storeAll (i := 0) Tryz.sizeOf31 rfl rfl rfl (by simp [Value.oneCell']) rfl rfl ?_)
   simp only [sc0, scS]
   refine tA rfl rfl (tE (At.retC (At.ret2 (.inl rfl) rfl rfl (ResOf.all (i := 0) Tryz.isAgg31 Tryz.sizeOf31 rfl rfl rfl) rfl (fun w hw => ?_))))
   exact ⟨by rw [find_no (fun h j hj => (hs.2 j (by omega)).2)], hw.mod⟩
 ·try simp only [vN_T, vN_F, nmE_T, nmE_F, wI_T, wI_F, data_T, data_F, ino_T, ino_F, notT, notF, bneT, bneF, beqT, beqF, decT, decF] at h2
  refine At.no rfl rfl rfl rfl (At.no rfl rfl rfl rfl (At.no rfl rfl rfl rfl (tV (Val.pickF rfl rfl) rfl (tE (At.condF rfl (At.exitC (At.thenX (At.thenX (At.blkX (At.thenN (tR ?_)))))))))))
  refine tV (Val.build (fun a ha => by simp only [List.map_toArray, List.map_cons, List.map_nil] <;> rfl) (bld_31_)) rfl (At.storeAll (i := 0) Tryz.sizeOf31 rfl rfl rfl (by simp [Value.oneCell']) rfl rfl ?_)
  simp only [sc0, scS]
  refine tA rfl rfl (tE (At.retC (At.ret2 (.inl rfl) rfl rfl (ResOf.all (i := 0) Tryz.isAgg31 Tryz.sizeOf31 rfl rfl rfl) rfl (fun w hw => ?_))))
  exact ⟨by rw [find_no (fun h j hj => (hs.2 j (by omega)).2)], hw.mod⟩
end Go.Proofs.YtfchinibjhcejaaGreatDoor
namespace Go.Proofs.YtfchinibjhcejaaGreatDoor
open Go Go.Wk
inductive Ac where
  | st (k : Nat) (x : BitVec 64)
  | fl (l : Nat)
  | fe
def stepA (σ : Ds) : Ac → Ds
  | .st k x => storeD σ k x
  | .fl l => lineD σ l
  | .fe => fenceD (stepD σ)
def actsE : Ds → List Ac → Int × Ds
  | σ, [] => (0, σ)
  | σ, a :: l => if deadB σ = true then (13, σ) else actsE (stepA σ a) l
theorem actsE_dead {σ : Ds} {a : Ac} {l : List Ac} (h : deadB σ = true) : actsE σ (a :: l) = (13, σ) := by unfold actsE; rw [if_pos h]
theorem actsE_live {σ : Ds} {a : Ac} {l : List Ac} (h : deadB σ = false) : actsE σ (a :: l) = actsE (stepA σ a) l := by
  show (if deadB σ = true then (13, σ) else actsE (stepA σ a) l) = _
  rw [if_neg (by rw [h]; simp)]
theorem actsE_01 : ∀ (l : List Ac) (σ : Ds), (actsE σ l).1 = 0 ∨ (actsE σ l).1 = 13
  | [], σ => Or.inl rfl
  | a :: l, σ => by
    cases h : deadB σ with
    | true => rw [actsE_dead h]; exact Or.inr rfl
    | false => rw [actsE_live h]; exact actsE_01 l _
theorem actsE_append : ∀ (a b : List Ac) (σ : Ds), actsE σ (a ++ b) = if (actsE σ a).1 = 0 then actsE (actsE σ a).2 b else actsE σ a
  | [], b, σ => rfl
  | x :: a, b, σ => by
    rw [List.cons_append]
    cases h : deadB σ with
    | true => rw [actsE_dead h, actsE_dead h]; rfl
    | false => rw [actsE_live h, actsE_live h]; exact actsE_append a b _
theorem actsE_go {a b : List Ac} {σ : Ds} (h : (actsE σ a).1 = 0) : actsE σ (a ++ b) = actsE (actsE σ a).2 b := by rw [actsE_append, if_pos h]
theorem actsE_stop {a b : List Ac} {σ : Ds} (h : (actsE σ a).1 = 13) : actsE σ (a ++ b) = actsE σ a := by rw [actsE_append, if_neg (by rw [h]; decide)]
def AcOk (n : Nat) : Ac → Prop
  | .st k _ => k < n
  | .fl l => 8 * l < n
  | .fe => True
theorem stepA_rest {σ : Ds} {a : Ac} (h : AcOk σ.ws.length a) : (stepA σ a).steps = σ.steps + 1 ∧ (stepA σ a).armed = σ.armed ∧ (stepA σ a).ws.length = σ.ws.length := by
  cases a with
  | st k x => exact storeD_rest x h
  | fl l => exact lineD_rest σ l
  | fe => exact ⟨rfl, rfl, by simp [stepA, fenceD, stepD]⟩
theorem actsE_rest : ∀ (l : List Ac) (σ : Ds), (∀ a ∈ l, AcOk σ.ws.length a) → (actsE σ l).2.ws.length = σ.ws.length ∧ (actsE σ l).2.steps ≤ σ.steps + l.length ∧ (actsE σ l).2.armed = σ.armed ∧ (σ.armed = false → (actsE σ l).1 = 0 ∧ (actsE σ l).2.steps = σ.steps + l.length)
  | [], σ, _ => ⟨rfl, Nat.le_refl _, rfl, fun _ => ⟨rfl, rfl⟩⟩
  | a :: l, σ, h => by
    cases hd : deadB σ with
    | true =>
      rw [actsE_dead hd]
      exact ⟨rfl, Nat.le_add_right _ _, rfl, fun ha => by rw [dead_of ha] at hd; cases hd⟩
    | false =>
      rw [actsE_live hd]
      obtain ⟨h1, h2, h3⟩ := stepA_rest (h a (List.mem_cons_self ..))
      obtain ⟨g1, g2, g3, g4⟩ := actsE_rest l (stepA σ a) (fun b hb => by rw [h3]; exact h b (List.mem_cons_of_mem _ hb))
      exact ⟨g1.trans h3, by rw [List.length_cons]; omega, g3.trans h2, fun ha => ⟨(g4 (h2.trans ha)).1, by rw [(g4 (h2.trans ha)).2, List.length_cons]; omega⟩⟩
def stA : Nat → List (BitVec 64) → List Ac
  | _, [] => []
  | k, x :: l => .st k x :: stA (k + 1) l
def flA : Nat → Nat → List Ac
  | _, 0 => []
  | l, c + 1 => .fl l :: flA (l + 1) c
theorem stA_len : ∀ (l : List (BitVec 64)) (k : Nat), (stA k l).length = l.length
  | [], _ => rfl
  | x :: l, k => by rw [stA, List.length_cons, stA_len l, List.length_cons]
theorem flA_len : ∀ (c l : Nat), (flA l c).length = c
  | 0, _ => rfl
  | c + 1, l => by rw [flA, List.length_cons, flA_len c]
theorem stA_ok {n : Nat} : ∀ (l : List (BitVec 64)) (k : Nat), k + l.length ≤ n → ∀ a ∈ stA k l, AcOk n a
  | [], _, _, a, h => by cases h
  | x :: l, k, hk, a, h => by
    rw [List.length_cons] at hk
    rcases List.mem_cons.1 h with rfl | h
    · show k < n; omega
    · exact stA_ok l (k + 1) (by omega) a h
theorem flA_ok {n : Nat} : ∀ (c l : Nat), 8 * (l + c) < n + 8 → ∀ a ∈ flA l c, AcOk n a
  | 0, _, _, a, h => by cases h
  | c + 1, l, hk, a, h => by
    rcases List.mem_cons.1 h with rfl | h
    · show 8 * l < n; omega
    · exact flA_ok c (l + 1) (by omega) a h
theorem storesE_acts : ∀ (l : List (BitVec 64)) (k : Nat) (σ : Ds), storesE k σ l = actsE σ (stA k l)
  | [], _, _ => rfl
  | x :: l, k, σ => by
    rw [stA]
    cases h : deadB σ with
    | true => rw [storesE_dead h, actsE_dead h]
    | false => rw [storesE_live h, actsE_live h]; exact storesE_acts l _ _
theorem linesE_acts : ∀ (c l : Nat) (σ : Ds), linesE l σ c = actsE σ (flA l c)
  | 0, _, _ => rfl
  | c + 1, l, σ => by
    rw [flA]
    cases h : deadB σ with
    | true => rw [linesE_dead h, actsE_dead h]
    | false => rw [linesE_live h, actsE_live h]; exact linesE_acts c _ _
theorem dead_of_acts {σ : Ds} {l : List Ac} (h : ∀ a ∈ l, AcOk σ.ws.length a) (ha : σ.armed = false) : (actsE σ l).1 = 0 := ((actsE_rest l σ h).2.2.2 ha).1
end Go.Proofs.YtfchinibjhcejaaGreatDoor
namespace Go.Proofs.YtfchinibjhcejaaGreatDoor
open Go Go.Wk
def TW (a i : Int) : Prop := 2048 ≤ a ∧ (a - 2048) % 8 = 0 ∧ (a - 2048) / 64 < i ∧ (a - 2048) % 64 < 24
instance (a i : Int) : Decidable (TW a i) := by unfold TW; infer_instance
theorem eq_shape (p i c d e : Int) : ((p == p) && ((i == i) && ((c == c) && ((e == d) && true)))) = decide (d = e) := by
  simp only [beq_self_eq_true, Bool.true_and, Bool.and_true]
  rw [Bool.eq_iff_iff]; simp only [beq_iff_eq, decide_eq_true_eq]
  exact ⟨Eq.symm, Eq.symm⟩
theorem wrap_off {a : Int} (h : -9223372036854775808 ≤ a ∧ a ≤ 9223372036854775807) : ∃ o, IntKind.i64.wrap (a - 2048) = o ∧ (o = a - 2048 ∨ (a < -9223372036854773760 ∧ o = a - 2048 + 18446744073709551616)) ∧ -9223372036854775808 ≤ o ∧ o ≤ 9223372036854775807 := by
  refine ⟨_, rfl, ?_⟩
  by_cases h1 : -9223372036854773760 ≤ a
  · rw [wrap_i64 (by omega) (by omega)]; omega
  · have e : IntKind.i64.wrap (a - 2048) = a - 2048 + 18446744073709551616 := by
      simp only [IntKind.wrap, IntKind.signed, IntKind.bits]
      simp
      omega
    rw [e]; omega
def PlK (i : Int) (cs : List (Int × BitVec 64)) (k : Nat) : Prop := ∀ j q, j < k → cs[j]? = some q → TW q.1 i ∧ q.1 ∉ (cs.take j).map Prod.fst
theorem PlK_0 (i : Int) (cs : List (Int × BitVec 64)) : PlK i cs 0 := fun j q h => absurd h (Nat.not_lt_zero _)
theorem PlK_succ {i : Int} {cs : List (Int × BitVec 64)} {k : Nat} {q : Int × BitVec 64} (h : PlK i cs k) (hq : cs[k]? = some q) (h1 : TW q.1 i) (h2 : q.1 ∉ (cs.take k).map Prod.fst) : PlK i cs (k + 1) := fun j r hj hr => by
  rcases Nat.lt_or_ge j k with g | g
  · exact h j r g hr
  · obtain rfl : k = j := by omega
    obtain rfl : q = r := by rw [hq] at hr; exact Option.some.inj hr
    exact ⟨h1, h2⟩
theorem PlK_not {i : Int} {cs : List (Int × BitVec 64)} {k : Nat} {q : Int × BitVec 64} (hq : cs[k]? = some q) (h : ¬ (TW q.1 i ∧ q.1 ∉ (cs.take k).map Prod.fst)) : ¬ PlK i cs cs.length := fun g => h (g k q (List.getElem?_eq_some_iff.1 hq).1 hq)
theorem isTable_p (p i c dt a : Int) (w : World) (ha : -9223372036854775808 ≤ a ∧ a ≤ 9223372036854775807) (hi : 0 ≤ i ∧ i ≤ 1000000) :
    PureC Tryz.prog 39 [.agg #[.int .i64 p, .int .i64 i, .int .i64 c, .int .i64 dt], .int .i64 a] (.bool (decide (TW a i))) w := by
 refine enter0 Tryz.func39 rfl Tryz.ntmps39 rfl ?_
 obtain ⟨o, ho, hoc, hob⟩ := wrap_off ha
 simp only [envOf]
 refine tR (At.box rfl rfl rfl (fun b1 => (tA rfl rfl (tE (tR (tM rfl rfl (tV (Val.bin rfl rfl rfl) rfl ?_)))))))
 rw [ho]
 refine tA rfl rfl (tE (At.seq (tR (At.weaken [(0, _), (1, _), (2, _), (4, _), (6, _), (7, _), (5, _)] (Sub.cons rfl (Sub.cons rfl (Sub.cons rfl (Sub.cons rfl (Sub.cons rfl (Sub.cons rfl (Sub.cons rfl Sub.nil))))))) ?_))))
 refine At.boolMeet 7 14 (decide (¬ (0 ≤ o ∧ o % 8 = 0))) ?_ ?_
 ·simp only [List.take_succ_cons, List.take_zero]
  refine tM rfl rfl (tV (Val.bin rfl rfl rfl) rfl (tM rfl rfl ?_))
  refine At.split (t := 10) rfl (fun h2 => ?_) (fun h2 => ?_)
  ·try simp only [hasB, isSizeB, sB] at h2
   refine At.no rfl rfl rfl rfl (At.no rfl rfl rfl rfl (At.no rfl rfl rfl rfl (tV (Val.pickT rfl rfl) rfl (At.nil ?_))))
   exact At.boolEnd rfl (by apply Bool.eq_iff_iff.2; (simp only [decide_eq_true_eq, Bool.false_eq_true, false_iff, true_iff, iff_true, iff_false, gt_iff_lt, ge_iff_le, beq_iff_eq, bne_iff_ne, ne_eq]) <;> omega) (by repeat (first | exact Sub.nil | refine Sub.cons rfl ?_))
  ·try simp only [hasB, isSizeB, sB] at h2
   refine At.yes rfl rfl (tM rfl rfl (At.yes rfl rfl ?_))
   first | refine tV (Val.remI rfl rfl (by omega) (by decide)) rfl ?_ | refine tV (Val.rem rfl rfl (by decide)) rfl ?_
   refine At.yes rfl rfl (tV (Val.bin rfl rfl rfl) rfl (tV (Val.pickF rfl rfl) rfl (At.nil ?_)))
   exact At.boolEnd rfl (by apply Bool.eq_iff_iff.2; (simp only [decide_eq_true_eq, Bool.false_eq_true, false_iff, true_iff, iff_true, iff_false, gt_iff_lt, ge_iff_le, beq_iff_eq, bne_iff_ne, ne_eq]) <;> omega) (by repeat (first | exact Sub.nil | refine Sub.cons rfl ?_))
 ·simp only [List.drop_succ_cons, List.drop_zero]
  refine tE ?_
  refine At.cond rfl (fun h3 => ?_) (fun h3 => ?_)
  ·try simp only [hasB, isSizeB, sB] at h3
   refine tR (tA rfl rfl (tE (At.retC (At.thenR (At.ret1 (.inl rfl) rfl rfl rfl (fun w hw => ?_))))))
   exact ⟨retB (decide_eq_false (fun h => by unfold TW at h; omega)).symm, hw.mod⟩
  ·try simp only [hasB, isSizeB, sB] at h3
   refine At.skipC (At.thenN (tR (At.weaken [(0, _), (1, _), (2, _), (4, _), (6, _), (7, _), (5, _), (14, _)] (Sub.cons rfl (Sub.cons rfl (Sub.cons rfl (Sub.cons rfl (Sub.cons rfl (Sub.cons rfl (Sub.cons rfl (Sub.cons rfl Sub.nil)))))))) ?_)))
   refine At.boolMeet 10 24 (decide (o / 64 < i ∧ o % 64 < 24)) ?_ ?_
   ·simp only [List.take_succ_cons, List.take_zero]
    refine tM rfl rfl ?_
    first | refine tV (Val.quoI rfl rfl (by omega) (by omega) (by decide)) rfl ?_ | refine tV (Val.quo rfl rfl (by decide)) rfl ?_
    refine tV (Val.field 1 rfl fo_31_1 rfl) rfl (tV (Val.load (i := 0) Tryz.isAgg3 rfl rfl rfl) rfl (tV (Val.bin rfl rfl rfl) rfl (tM rfl rfl ?_)))
    refine At.split (t := 20) rfl (fun h4 => ?_) (fun h4 => ?_)
    ·try simp only [hasB, isSizeB, sB] at h4
     refine At.yes rfl rfl (tM rfl rfl (At.yes rfl rfl ?_))
     first | refine tV (Val.remI rfl rfl (by omega) (by decide)) rfl ?_ | refine tV (Val.rem rfl rfl (by decide)) rfl ?_
     refine At.yes rfl rfl (tV (Val.bin rfl rfl rfl) rfl (tV (Val.pickT rfl rfl) rfl (At.nil ?_)))
     exact At.boolEnd rfl (by apply Bool.eq_iff_iff.2; (simp only [decide_eq_true_eq, Bool.false_eq_true, false_iff, true_iff, iff_true, iff_false, gt_iff_lt, ge_iff_le, beq_iff_eq, bne_iff_ne, ne_eq]) <;> omega) (by repeat (first | exact Sub.nil | refine Sub.cons rfl ?_))
    ·try simp only [hasB, isSizeB, sB] at h4
     refine At.no rfl rfl rfl rfl (At.no rfl rfl rfl rfl (At.no rfl rfl rfl rfl (tV (Val.pickF rfl rfl) rfl (At.nil ?_))))
     exact At.boolEnd rfl (by apply Bool.eq_iff_iff.2; (simp only [decide_eq_true_eq, Bool.false_eq_true, false_iff, true_iff, iff_true, iff_false, gt_iff_lt, ge_iff_le, beq_iff_eq, bne_iff_ne, ne_eq]) <;> omega) (by repeat (first | exact Sub.nil | refine Sub.cons rfl ?_))
   ·simp only [List.drop_succ_cons, List.drop_zero]
    refine tA rfl rfl (tE (At.retC (At.ret1 (.inl rfl) rfl rfl rfl (fun w hw => ?_))))
    exact ⟨retB (by apply Bool.eq_iff_iff.2; simp only [decide_eq_true_eq]; unfold TW; omega), hw.mod⟩
theorem index_p (v : Value) (l : List Int) (x : Int) (w : World) (hv : RdI w v l) (hl : l.length ≤ 17592186044416) :
    Calls Tryz.prog 114 (List.toArray [v, .int .i64 x]) w fun e w' => ∃ r : Int, e = .returned (.int .i64 r) ∧ (0 ≤ r ↔ x ∈ l) ∧ Mod (fun _ => False) w w' := by
 refine enter0 Tryz.func114 rfl Tryz.ntmps114 rfl ?_
 simp only [envOf]
 refine tR (tA rfl rfl (tE (At.seq (tR (tM rfl rfl (tV (Val.lenRd hv Tryz.underlying63 rfl) rfl (tM rfl rfl (tE (At.block ?_)))))))))
 skip
 refine At.loop (σ := Nat) (fun k => k ≤ l.length ∧ x ∉ l.take k) (fun k => [(0, v), (1, .int .i64 x), (7, .int .i64 (l.length : Int)), (8, .int .i64 (k : Int))]) (fun k => []) (fun k => l.length - k) 0 ⟨Nat.zero_le _, by simp⟩ (Sub.cons rfl (Sub.cons rfl (Sub.cons rfl (Sub.cons rfl Sub.nil)))) (List.Perm.refl _) ?_
 intro k hs
 refine tR (tV (Val.bin rfl rfl rfl) rfl (tE (At.seq ?_)))
 refine At.cond rfl (fun h1 => ?_) (fun h1 => ?_)
 ·try simp only [hasB, isSizeB, sB] at h1
  refine At.skipC (At.thenN (At.seq (At.block (tR (tM rfl rfl (tA rfl rfl (tE (tR (tM rfl rfl (tM rfl rfl (tM rfl rfl ?_)))))))))))
  obtain ⟨z, hz⟩ : ∃ z, l[k]? = some z := ⟨_, List.getElem?_eq_getElem (by omega)⟩
  refine At.idxI' hv (fun _ _ _ _ _ _ _ h => h) Tryz.underlying63 Tryz.sizeOf3 rfl rfl (by omega) (by omega) rfl rfl (fun bx ox cx hcx hcc hox => ?_)
  rw [Int.toNat_natCast] at hcx
  obtain rfl : z = cx := Option.some.inj (hz.symm.trans hcx)
  refine tV (Val.loadOld Tryz.isAgg3 rfl hcc hox) rfl (tV (Val.bin rfl rfl rfl) rfl (tE ?_))
  refine At.cond rfl (fun h2 => ?_) (fun h2 => ?_)
  ·try simp only [hasB, isSizeB, sB] at h2
   refine tR (tM rfl rfl (tA rfl rfl (tE (At.retC (At.blkR (At.thenR (At.thenR (At.blkR (At.thenR (At.ret1 (.inl rfl) rfl rfl rfl (fun w hw => ?_)))))))))))
   exact ⟨_, rfl, ⟨fun _ => by have := List.mem_of_getElem? hz; rwa [show x = z by omega], fun _ => by omega⟩, hw.mod⟩
  ·try simp only [hasB, isSizeB, sB] at h2
   refine At.skipC (At.blkN (At.thenN (At.region ?_)))
   first | refine tV (Val.addI rfl rfl (by omega) (by omega)) rfl ?_ | refine tV (Val.bin rfl rfl rfl) rfl ?_
   refine tM rfl rfl (tE ?_)
   exact At.again (k + 1) ⟨by omega, by rw [List.take_succ_of_get hz, List.mem_append, List.mem_singleton]; intro h; exact h.elim hs.2 (by omega)⟩ (by omega) (Sub.cons rfl (Sub.cons rfl (Sub.cons rfl (Sub.cons (congrArg (fun z => some (Value.int IntKind.i64 z)) (by omega)) Sub.nil)))) (List.Perm.refl _)
 ·try simp only [hasB, isSizeB, sB] at h1
  refine At.exitC (At.thenX (At.thenX (At.blkX (At.thenN (tR (tA rfl rfl (tE (At.retC (At.ret1 (.inl rfl) rfl rfl rfl (fun w hw => ?_))))))))))
  exact ⟨_, rfl, ⟨fun h => absurd h (by decide), fun h => by have h2 := hs.2; rw [List.take_of_length_le (by omega)] at h2; exact absurd h h2⟩, hw.mod⟩
theorem contains_p (v : Value) (l : List Int) (x : Int) (w : World) (hv : RdI w v l) (hl : l.length ≤ 17592186044416) :
    PureC Tryz.prog 82 [v, .int .i64 x] (.bool (decide (x ∈ l))) w := by
 refine enter0 Tryz.func82 rfl Tryz.ntmps82 rfl ?_
 simp only [envOf]
 refine tR (tA rfl rfl (tE (tR (tM rfl rfl (tM rfl rfl (At.callX (R := fun u => ∃ r : Int, u = .int .i64 r ∧ (0 ≤ r ↔ x ∈ l)) (fun w hw => (index_p v l x w (hv.mod hw.mod) hl).mono fun e w' ⟨r, he, hr, hm⟩ => ⟨_, ⟨r, rfl, hr⟩, he, hm⟩) Tryz.call114 rfl rfl (fun u hu => ?_)))))))
 obtain ⟨r, rfl, hr⟩ := hu
 refine tV (Val.bin rfl rfl rfl) rfl (tA rfl rfl (tE (At.retC (At.ret1 (.inl rfl) rfl rfl rfl (fun w hw => ?_)))))
 exact ⟨retB (by apply Bool.eq_iff_iff.2; simp only [decide_eq_true_eq, ge_iff_le]; exact hr), hw.mod⟩
end Go.Proofs.YtfchinibjhcejaaGreatDoor
namespace Go.Proofs.YtfchinibjhcejaaGreatDoor
open Go Go.Shelf Go.Sort Go.RowKit Go.Proofs
def comp_ren : Go.Shelf.Ren := ⟨fun | 20 => 120 | n => n, fun | 0 => 0 | 3 => 3 | 4 => 4 | 22 => 63 | n => n, fun n => n⟩
theorem comp_lays : Lays2.n20 Tryz.prog comp_ren := {
  mixed := by kernel_rfl
  f20 := Tryz.func120.trans (congrArg some (by kernel_rfl))
  t0 := Tryz.underlying0
  a0 := Tryz.isAgg0
  z0 := Tryz.sizeOf0
  v0 := Tryz.zeroValue0
  t3 := Tryz.underlying3
  a3 := Tryz.isAgg3
  z3 := Tryz.sizeOf3
  v3 := Tryz.zeroValue3
  t4 := Tryz.underlying4
  a4 := Tryz.isAgg4
  z4 := Tryz.sizeOf4
  v4 := Tryz.zeroValue4
  t22 := Tryz.underlying63
  a22 := Tryz.isAgg63
  z22 := Tryz.sizeOf63
  v22 := Tryz.zeroValue63
  i3 := by kernel_rfl }
end Go.Proofs.YtfchinibjhcejaaGreatDoor
namespace Go.Proofs.YtfchinibjhcejaaGreatDoor
open Go Go.Wk
noncomputable instance (i : Int) (cs : List (Int × BitVec 64)) (k : Nat) : Decidable (PlK i cs k) := Classical.propDecidable _
noncomputable def plE (i : Int) (cs : List (Int × BitVec 64)) : Int := if PlK i cs cs.length then 0 else 40
noncomputable def plL (i : Int) (cs : List (Int × BitVec 64)) : List Int := if PlK i cs cs.length then cs.map Prod.fst else []
theorem pl_yes {i : Int} {cs : List (Int × BitVec 64)} (h : PlK i cs cs.length) : plE i cs = 0 ∧ plL i cs = cs.map Prod.fst := ⟨if_pos h, if_pos h⟩
theorem pl_no {i : Int} {cs : List (Int × BitVec 64)} (h : ¬ PlK i cs cs.length) : plE i cs = 40 ∧ plL i cs = [] := ⟨if_neg h, if_neg h⟩
theorem map_take_snoc {cs : List (Int × BitVec 64)} {k : Nat} {q : Int × BitVec 64} (h : cs[k]? = some q) : (cs.take (k + 1)).map Prod.fst = (cs.take k).map Prod.fst ++ [q.1] := by rw [List.take_succ_of_get h, List.map_append]; rfl
theorem compact_ok {l : List Int} (hs : l.Pairwise (· ≤ ·)) : (Lib.compact l).Pairwise (· < ·) ∧ ∀ x, x ∈ Lib.compact l ↔ x ∈ l := by
  have key : ∀ m, m ≤ l.length → (Lib.compactUpTo l.toArray m).Pairwise (· < ·) ∧ (∀ x, x ∈ Lib.compactUpTo l.toArray m ↔ x ∈ l.take m) := by
    intro m
    induction m with
    | zero => intro _; exact ⟨by simp [Lib.compactUpTo], by simp [Lib.compactUpTo]⟩
    | succ m ih =>
      intro hm
      obtain ⟨h1, h2⟩ := ih (by omega)
      obtain ⟨q, hq⟩ : ∃ q, l[m]? = some q := ⟨_, List.getElem?_eq_getElem (by omega)⟩
      have hqd : l.toArray[m]! = q := by simp [hq]
      have hle : ∀ x, x ∈ l.take m → x ≤ q := fun x hx => by
        obtain ⟨j, hj⟩ := List.getElem?_of_mem hx
        have hjm : j < m := by have := (List.getElem?_eq_some_iff.1 hj).1; rw [List.length_take] at this; omega
        rw [List.getElem?_take, if_pos hjm] at hj
        have g1 := List.getElem?_eq_some_iff.1 hj
        have g2 := List.getElem?_eq_some_iff.1 hq
        have := List.pairwise_iff_getElem.1 hs j m g1.1 g2.1 hjm
        rw [g1.2, g2.2] at this
        exact this
      rw [Lib.compactUpTo_succ, List.take_succ_of_get hq, hqd]
      by_cases hk : Lib.keeps l.toArray m = true
      · rw [if_pos hk]
        refine ⟨List.pairwise_append.2 ⟨h1, List.pairwise_singleton _ _, fun x hx y hy => ?_⟩, fun x => ?_⟩
        · rw [List.mem_singleton] at hy
          subst hy
          have hx' := (h2 x).1 hx
          have hxle := hle x hx'
          rcases Nat.eq_zero_or_pos m with h0 | h0
          · subst h0; simp at hx'
          · obtain ⟨r, hr⟩ : ∃ r, l[m - 1]? = some r := ⟨_, List.getElem?_eq_getElem (by omega)⟩
            have hrd : l.toArray[m - 1]! = r := by simp [hr]
            have hne : y ≠ r := by
              have : decide (m = 0 ∨ l.toArray[m]! ≠ l.toArray[m - 1]!) = true := hk
              rw [decide_eq_true_eq, hqd, hrd] at this
              rcases this with h | h
              · omega
              · exact h
            have g1 := List.getElem?_eq_some_iff.1 hr
            have g2 := List.getElem?_eq_some_iff.1 hq
            have hry : r ≤ y := by
              have := List.pairwise_iff_getElem.1 hs (m - 1) m g1.1 g2.1 (by omega)
              rw [g1.2, g2.2] at this; exact this
            have hxr : x ≤ r := by
              obtain ⟨j, hj⟩ := List.getElem?_of_mem hx'
              have hjm : j < m := by have := (List.getElem?_eq_some_iff.1 hj).1; rw [List.length_take] at this; omega
              rw [List.getElem?_take, if_pos hjm] at hj
              have g3 := List.getElem?_eq_some_iff.1 hj
              rcases Nat.lt_or_ge j (m - 1) with hlt | hge
              · have := List.pairwise_iff_getElem.1 hs j (m - 1) g3.1 g1.1 hlt
                rw [g3.2, g1.2] at this; exact this
              · have hje : j = m - 1 := by omega
                subst hje
                rw [hr] at hj
                rw [Option.some.inj hj]; exact Int.le_refl _
            omega
        · rw [List.mem_append, List.mem_append, h2 x]
      · rw [if_neg hk, List.append_nil]
        refine ⟨h1, fun x => ?_⟩
        rw [h2 x, List.mem_append, List.mem_singleton]
        refine ⟨Or.inl, fun h => h.elim id fun e => ?_⟩
        have hm0 : 0 < m := by
          rcases Nat.eq_zero_or_pos m with h0 | h0
          · subst h0; exact absurd (Lib.keeps_lt_one l.toArray 0 (by omega)) hk
          · exact h0
        obtain ⟨r, hr⟩ : ∃ r, l[m - 1]? = some r := ⟨_, List.getElem?_eq_getElem (by omega)⟩
        have hrd : l.toArray[m - 1]! = r := by simp [hr]
        have hqr : q = r := Classical.byContradiction fun hne => hk (Lib.keeps_pos (by rw [hqd, hrd]; exact hne))
        rw [e, hqr]
        exact List.mem_of_getElem? (i := m - 1) (by rw [List.getElem?_take, if_pos (by omega)]; exact hr)
  obtain ⟨h1, h2⟩ := key l.length (Nat.le_refl _)
  exact ⟨h1, fun x => by rw [show Lib.compact l = Lib.compactUpTo l.toArray l.length from rfl, h2 x, List.take_length]⟩
theorem comp_len (l : List Int) : (Lib.compact l).length ≤ l.length := by
  show ((List.range l.length).filter _ |>.map _).length ≤ _
  rw [List.length_map]
  exact Nat.le_trans (List.length_filter_le _ _) (by rw [List.length_range]; exact Nat.le_refl _)
theorem comp_u (v : Value) (l : List Int) (w : World) (h : (irow 3 v l).holds w) : RowUpd Tryz.prog 120 [v] v 3 1 l.length (l.map (Value.int .i64)) (Lib.compact l).length ((Lib.compact l).map (Value.int .i64)) w := by
  have h0 : w.ownsRow 0 3 1 v l.length (l.map (Value.int .i64)) := h
  have hcl := comp_len l
  rcases h0.2 with ⟨rfl, hn⟩ | ⟨g, cap, cur, rfl, hbase, hb, h1, h2, h3, h4⟩
  · have hl : l = [] := List.eq_nil_of_length_eq_zero hn
    subst hl
    exact (Any.slices_Compact_int_empty comp_lays none 0 w).mono fun e w' ⟨he, hw'⟩ => ⟨_, he, by subst hw'; exact Rep.one h⟩
  · refine (Any.slices_Compact_int comp_lays g 0 cap l w (holds_of_blockI hb (by simpa using h4)) (by simp only [maxLen] at h2; omega) h1).mono ?_
    rintro e w' ⟨rfl, n, rfl⟩
    refine ⟨_, rfl, ?_⟩
    obtain ⟨ts, hts⟩ : ∃ ts, ts = Lib.compact l ++ List.replicate (l.length - (Lib.compact l).length) 0 := ⟨_, rfl⟩
    rw [← hts]
    have htl : ts.length = l.length := by rw [hts, List.length_append, List.length_replicate]; omega
    have hg := grownBy_sortedI (w := w) (g := g) (n := n) (os := #[]) ts.toArray
    have hh := heap_sortedI (n := n) (os := #[]) ts.toArray hb
    rw [Go.Sort.grow_empty] at hg hh
    refine Rep.change (i := 0) (r := irow 3 (.slice (some ⟨g, 0, none⟩) l.length cap) l) (r' := rowR (.slice (some ⟨g, 0, none⟩) (Lib.compact l).length cap) 3 1 (Lib.compact l).length ((Lib.compact l).map (Value.int .i64))) rfl (Rep.one h) (grown_mod hg) ?_ (fun b hb => .inl hb)
    refine ⟨by simp, .inr ⟨g, cap, _, rfl, hbase, hh, by omega, h2, by simp [Go.Sort.putCells, h3], ?_⟩⟩
    have h5 := take_putCellsI cur ts (by rw [htl]; omega)
    have h6 := congrArg (List.take (Lib.compact l).length) h5
    rw [List.take_take, Nat.min_eq_left (by omega), ← List.map_take, hts, List.take_left, ← hts] at h6
    rw [Nat.mul_one]
    exact h6
theorem fits_k (p : Nat) (γ : Gh) (σ : Ds) (sp si sc sd : Int) (w : World) (hd : (Dev p γ σ).holds w) :
    Upd Tryz.prog 45 [.pointer (some ⟨p, 0, none⟩), .agg #[.int .i64 sp, .int .i64 si, .int .i64 sc, .int .i64 sd]] (Dev p γ σ) (.bool (decide (GoodSup sp si sc ∧ sd = 4 + si / 8 ∧ 8 * (σ.ws.length : Int) = 512 * sp))) (Dev p γ σ) w := by
 refine enterVc hd Tryz.func45 rfl Tryz.ntmps45 rfl ?_
 have hgd := Dev.good hd
 have hln := hgd.len
 simp only [envOf]
 refine tR (At.box rfl rfl rfl (fun b1 => (tA rfl rfl (tE (tR (tV (Val.field 0 rfl fo_31_0 rfl) rfl (tV (Val.load (i := 0) Tryz.isAgg3 rfl rfl rfl) rfl (tV (Val.field 1 rfl fo_31_1 rfl) rfl (tV (Val.load (i := 0) Tryz.isAgg3 rfl rfl rfl) rfl (tV (Val.field 2 rfl fo_31_2 rfl) rfl (tV (Val.load (i := 0) Tryz.isAgg3 rfl rfl rfl) rfl ?_)))))))))))
 refine tV (Val.build (fun a ha => by simp only [List.map_toArray, List.map_cons, List.map_nil, ha.eval (x := (.tmp 9)) rfl, ha.eval (x := (.tmp 11)) rfl, ha.eval (x := (.tmp 13)) rfl] <;> rfl) (bld_23_0_1_2 _ _ _ )) rfl (At.callP (fun w hw => fit_p _ _ _ w) Tryz.call70 rfl rfl ?_)
 by_cases hg : GoodSup sp si sc
 ·rw [fit_yes hg]
  have hg2 := hg
  unfold GoodSup at hg2
  refine tM rfl rfl (tV (Val.extract rfl rfl) rfl (tV (Val.extract rfl rfl) rfl (At.alloc Tryz.zeroValue31 rfl rfl (fun b2 => (At.storeAll (i := 0) Tryz.sizeOf31 rfl rfl rfl (by simp [Value.oneCell']) rfl rfl ?_)))))
  simp only [sc0, scS]
  refine tA rfl rfl (tE (At.seq ?_))
  apply At.any (t := 16)
  · rfl
  refine KAt.pin (fun w hw => hw) (KAt.take 0 (Val.move rfl) rfl rfl rfl rfl (fun w hw => hw) (by decide +kernel) (KAt.take 1 (Val.bin rfl rfl rfl) rfl rfl rfl rfl (fun w hw => hw) (by decide +kernel) (KAt.take 2 (Val.move rfl) rfl rfl rfl rfl (fun w hw => hw) (by decide +kernel) (KAt.takeY 3 (Val.loadAll (i := 0) Tryz.isAgg31 Tryz.sizeOf31 rfl rfl rfl) rfl rfl rfl rfl (fun w hw => hw) (by decide +kernel) (KAt.takeY 4 (Val.loadAll (i := 1) Tryz.isAgg31 Tryz.sizeOf31 rfl rfl rfl) rfl rfl rfl rfl (fun w hw => hw) (by decide +kernel) (KAt.takeY 5 (Val.eqAgg Tryz.eqGuardType31 (fun w => eq_31 _ _ _ _ _ _ _ _ w) rfl rfl) rfl rfl rfl rfl (fun w hw => hw) (by decide +kernel) ?_))))))
  rw [eq_shape]
  refine KAt.take 6 (Val.pickT rfl rfl) rfl rfl rfl rfl (fun w hw => hw) (by decide +kernel) (KAt.take 7 (Val.move rfl) rfl rfl rfl rfl (fun w hw => hw) (by decide +kernel) ?_)
  refine KAt.split (s := 25) rfl (fun h3 => ?_) (fun h3 => ?_)
  ·try simp only [hasB, isSizeB, sB] at h3
   refine KAt.takeY 8 (Val.move rfl) rfl rfl rfl rfl (fun w hw => hw) (by decide +kernel) (KAt.takeY 10 (Val.field 0 rfl fo_31_0 rfl) rfl rfl rfl rfl (fun w hw => hw) (by decide +kernel) (KAt.takeY 11 (Val.load (i := 1) Tryz.isAgg3 rfl rfl rfl) rfl rfl rfl rfl (fun w hw => hw) (by decide +kernel) ?_))
   first | refine KAt.takeY 12 (Val.mulI rfl rfl (by omega) (by omega)) rfl rfl rfl rfl (fun w hw => hw) (by decide +kernel) ?_ | refine KAt.takeY 12 (Val.bin rfl rfl rfl) rfl rfl rfl rfl (fun w hw => hw) (by decide +kernel) ?_
   refine KAt.only 9 rfl (by decide +kernel) (At.yes rfl rfl (At.callK 2 rfl (fun w hw hr => size_k _ _ _ w hr) Tryz.call81 rfl rfl (At.nil (KAt.go (fun w hw => hw) (KAt.takeY 13 (Val.bin rfl rfl rfl) rfl rfl rfl rfl (fun w hw => hw) (by decide +kernel) (KAt.take 14 (Val.pickT rfl rfl) rfl rfl rfl rfl (fun w hw => hw) (by decide +kernel) (KAt.take 15 (Val.assign rfl) rfl rfl rfl rfl (fun w hw => hw) (by decide +kernel) (KAt.done (by decide +kernel) (At.thenN (At.retC (At.ret1 (.inl rfl) rfl rfl rfl (fun w hw => ?_))))))))))))
   exact ⟨retB (by apply Bool.eq_iff_iff.2; (simp only [decide_eq_true_eq, Bool.false_eq_true, false_iff, true_iff, beq_iff_eq]) <;> first | omega | (constructor <;> intro h9 <;> first | exact ⟨hg, by omega, by omega⟩ | (have := h9.2; omega) | omega) | (intro h9; first | exact absurd h9.1 hg | omega)), hw.drop (List.singleton_sublist.2 (List.mem_of_getElem? (i := 2) rfl))⟩
  ·try simp only [hasB, isSizeB, sB] at h3
   refine KAt.takeN 8 rfl rfl rfl rfl rfl (fun w hw => hw) (by decide +kernel) (KAt.takeN 10 rfl rfl rfl rfl rfl (fun w hw => hw) (by decide +kernel) (KAt.takeN 11 rfl rfl rfl rfl rfl (fun w hw => hw) (by decide +kernel) (KAt.takeN 12 rfl rfl rfl rfl rfl (fun w hw => hw) (by decide +kernel) (KAt.takeN 9 rfl rfl rfl rfl rfl (fun w hw => hw) (by decide +kernel) (KAt.takeN 13 rfl rfl rfl rfl rfl (fun w hw => hw) (by decide +kernel) (KAt.take 14 (Val.pickF rfl rfl) rfl rfl rfl rfl (fun w hw => hw) (by decide +kernel) (KAt.take 15 (Val.assign rfl) rfl rfl rfl rfl (fun w hw => hw) (by decide +kernel) (KAt.done (by decide +kernel) (At.thenN (At.retC (At.ret1 (.inl rfl) rfl rfl rfl (fun w hw => ?_))))))))))))
   exact ⟨retB (by apply Bool.eq_iff_iff.2; (simp only [decide_eq_true_eq, Bool.false_eq_true, false_iff, true_iff, beq_iff_eq]) <;> first | omega | (constructor <;> intro h9 <;> first | exact ⟨hg, by omega, by omega⟩ | (have := h9.2; omega) | omega) | (intro h9; first | exact absurd h9.1 hg | omega)), hw.drop (List.singleton_sublist.2 (List.mem_of_getElem? (i := 2) rfl))⟩
 ·rw [fit_no hg]
  refine tM rfl rfl (tV (Val.extract rfl rfl) rfl (tV (Val.extract rfl rfl) rfl (At.alloc Tryz.zeroValue31 rfl rfl (fun b4 => (At.storeAll (i := 0) Tryz.sizeOf31 rfl rfl rfl (by simp [Value.oneCell']) rfl rfl ?_)))))
  simp only [sc0, scS]
  refine tA rfl rfl (tE (At.seq ?_))
  apply At.any (t := 16)
  · rfl
  refine KAt.pin (fun w hw => hw) (KAt.take 0 (Val.move rfl) rfl rfl rfl rfl (fun w hw => hw) (by decide +kernel) (KAt.take 1 (Val.bin rfl rfl rfl) rfl rfl rfl rfl (fun w hw => hw) (by decide +kernel) (KAt.take 2 (Val.move rfl) rfl rfl rfl rfl (fun w hw => hw) (by decide +kernel) (KAt.takeN 3 rfl rfl rfl rfl rfl (fun w hw => hw) (by decide +kernel) (KAt.takeN 4 rfl rfl rfl rfl rfl (fun w hw => hw) (by decide +kernel) (KAt.takeN 5 rfl rfl rfl rfl rfl (fun w hw => hw) (by decide +kernel) (KAt.take 6 (Val.pickF rfl rfl) rfl rfl rfl rfl (fun w hw => hw) (by decide +kernel) (KAt.take 7 (Val.move rfl) rfl rfl rfl rfl (fun w hw => hw) (by decide +kernel) (KAt.takeN 8 rfl rfl rfl rfl rfl (fun w hw => hw) (by decide +kernel) (KAt.takeN 10 rfl rfl rfl rfl rfl (fun w hw => hw) (by decide +kernel) (KAt.takeN 11 rfl rfl rfl rfl rfl (fun w hw => hw) (by decide +kernel) (KAt.takeN 12 rfl rfl rfl rfl rfl (fun w hw => hw) (by decide +kernel) (KAt.takeN 9 rfl rfl rfl rfl rfl (fun w hw => hw) (by decide +kernel) (KAt.takeN 13 rfl rfl rfl rfl rfl (fun w hw => hw) (by decide +kernel) (KAt.take 14 (Val.pickF rfl rfl) rfl rfl rfl rfl (fun w hw => hw) (by decide +kernel) (KAt.take 15 (Val.assign rfl) rfl rfl rfl rfl (fun w hw => hw) (by decide +kernel) (KAt.done (by decide +kernel) (At.thenN (At.retC (At.ret1 (.inl rfl) rfl rfl rfl (fun w hw => ?_)))))))))))))))))))))
  exact ⟨retB (by apply Bool.eq_iff_iff.2; (simp only [decide_eq_true_eq, Bool.false_eq_true, false_iff, true_iff, beq_iff_eq]) <;> first | omega | (constructor <;> intro h9 <;> first | exact ⟨hg, by omega, by omega⟩ | (have := h9.2; omega) | omega) | (intro h9; first | exact absurd h9.1 hg | omega)), hw.drop (List.singleton_sublist.2 (List.mem_of_getElem? (i := 2) rfl))⟩
theorem places_n (p i c dt : Int) (v : Value) (cs : List (Int × BitVec 64)) (w : World) (hv : RdP w v cs) (hcl : cs.length ≤ 1000) (hb : ∀ q ∈ cs, -9223372036854775808 ≤ q.1 ∧ q.1 ≤ 9223372036854775807) (hi : 0 ≤ i ∧ i ≤ 1000000) :
    NewRowT Tryz.prog 46 [.agg #[.int .i64 p, .int .i64 i, .int .i64 c, .int .i64 dt], v] (fun v => .tuple #[v, .int .i64 (plE i cs)]) 3 1 (plL i cs).length ((plL i cs).map (Value.int .i64)) w := by
 refine enter0 Tryz.func46 rfl Tryz.ntmps46 rfl ?_
 simp only [envOf]
 refine tR (At.box rfl rfl rfl (fun b1 => (tA rfl rfl (tA rfl rfl (tE (tR (tA rfl rfl (At.nil (At.rowNilI 3 (At.thenN (At.seq (tR (tM rfl rfl (tV (Val.lenRd hv Tryz.underlying24 rfl) rfl (tM rfl rfl (tE (At.block ?_)))))))))))))))))
 skip
 refine At.loop (σ := Nat × Value) (fun s => s.1 ≤ cs.length ∧ PlK i cs s.1) (fun s => [(2, .pointer (some ⟨b1, 0, none⟩)), (4, .slice none 0 0), (5, .int .i64 0), (6, s.2), (9, v), (10, .int .i64 (cs.length : Int)), (11, .int .i64 (s.1 : Int))]) (fun s => [irow 3 s.2 ((cs.take s.1).map Prod.fst), blk b1 31 [.int .i64 p, .int .i64 i, .int .i64 c, .int .i64 dt]]) (fun s => cs.length - s.1) (0, .slice none 0 0) ⟨Nat.zero_le _, PlK_0 i cs⟩ (Sub.cons rfl (Sub.cons rfl (Sub.cons rfl (Sub.cons rfl (Sub.cons rfl (Sub.cons rfl (Sub.cons rfl Sub.nil))))))) (List.Perm.refl _) ?_
 intro s hs
 obtain ⟨k, vk⟩ := s
 dsimp only at hs ⊢
 obtain ⟨hk, hpl⟩ := hs
 have hml : ((cs.take k).map Prod.fst).length = k := by rw [List.length_map, List.length_take]; omega
 refine tR (tV (Val.bin rfl rfl rfl) rfl (tE (At.seq ?_)))
 refine At.cond rfl (fun h2 => ?_) (fun h2 => ?_)
 ·try simp only [hasB, isSizeB, sB] at h2
  refine At.skipC (At.thenN (At.seq (At.block (tR (At.idxP hv Tryz.underlying24 Tryz.sizeOf56 rfl rfl (by omega) (by omega) rfl rfl (fun b3 o4 q5 hq6 hc7 hd8 => (tV (Val.loadPair Tryz.isAgg56 Tryz.sizeOf56 rfl hc7 hd8 (fun h => h)) rfl (At.alloc Tryz.zeroValue56 rfl rfl (fun b9 => (At.storeAll (i := 0) Tryz.sizeOf56 rfl rfl rfl (by simp [Value.oneCell']) rfl rfl ?_))))))))))
  simp only [sc0, scS]
  refine tE (At.seq (tR (tV (Val.loadAll (i := 2) Tryz.isAgg31 Tryz.sizeOf31 rfl rfl rfl) rfl (tV (Val.field 0 rfl fo_56_0 rfl) rfl (tV (Val.load (i := 0) Tryz.isAgg3 rfl rfl rfl) rfl ?_)))))
  have hqk : cs[k]? = some q5 := by have h8 := hq6; rwa [Int.toNat_natCast] at h8
  refine At.callP (fun w hw => isTable_p p i c dt q5.1 w (hb q5 (List.mem_of_getElem? hqk)) hi) Tryz.call39 rfl rfl (tV (Val.not rfl) rfl (tM rfl rfl ?_))
  refine At.split (t := 20) rfl (fun h10 => ?_) (fun h10 => ?_)
  ·try simp only [hasB, isSizeB, sB] at h10
   refine At.no rfl rfl rfl rfl (At.no rfl rfl rfl rfl (At.no rfl rfl rfl rfl (At.no rfl rfl rfl rfl (tV (Val.pickT rfl rfl) rfl (tE (At.condT rfl (At.seq (At.rowNilI 3 (At.region (tA rfl rfl (tA rfl rfl (tE (At.retC (At.thenR (At.blkR (At.thenR (At.thenR (At.blkR (At.thenR (At.ret2 (.inl rfl) rfl rfl rfl rfl (fun w hw => ?_)))))))))))))))))))))
   obtain ⟨e1, e2⟩ := pl_no (PlK_not hqk (by first | exact fun g => absurd g.1 ‹_› | exact fun g => absurd ‹_› g.2))
   rw [e1, e2]
   exact ⟨_, rfl, (hw.drop (List.singleton_sublist.2 (List.mem_of_getElem? (i := 0) rfl))).f0⟩
  ·try simp only [hasB, isSizeB, sB] at h10
   refine At.yes rfl rfl (tM rfl rfl (At.yes rfl rfl (tV (Val.field 0 rfl fo_56_0 rfl) rfl (At.yes rfl rfl (tV (Val.load (i := 0) Tryz.isAgg3 rfl rfl rfl) rfl (At.yes rfl rfl (At.callP (fun w hw => contains_p _ _ q5.1 w (row_rd (hw.row (i := 1) rfl) (by decide)) (by omega)) Tryz.call82 rfl rfl (tV (Val.pickF rfl rfl) rfl (tE ?_)))))))))
   refine At.cond rfl (fun h11 => ?_) (fun h11 => ?_)
   ·try simp only [hasB, isSizeB, sB] at h11
    refine At.seq (At.rowNilI 3 (At.region (tA rfl rfl (tA rfl rfl (tE (At.retC (At.thenR (At.blkR (At.thenR (At.thenR (At.blkR (At.thenR (At.ret2 (.inl rfl) rfl rfl rfl rfl (fun w hw => ?_))))))))))))))
    obtain ⟨e1, e2⟩ := pl_no (PlK_not hqk (by first | exact fun g => absurd g.1 ‹_› | exact fun g => absurd ‹_› g.2))
    rw [e1, e2]
    exact ⟨_, rfl, (hw.drop (List.singleton_sublist.2 (List.mem_of_getElem? (i := 0) rfl))).f0⟩
   ·try simp only [hasB, isSizeB, sB] at h11
    refine At.skipC (At.thenN (At.region (tM rfl rfl (tV (Val.field 0 rfl fo_56_0 rfl) rfl (tV (Val.load (i := 0) Tryz.isAgg3 rfl rfl rfl) rfl (At.buildSl (fun a ha => by simp only [List.map_toArray, List.map_cons, List.map_nil, ha.eval (x := (.tmp 28)) rfl]; try rfl) (bs_63_1 _ ) rfl (fun b12 => (At.appendI1 (i := 2) (j := 0) (by_ := 8) Tryz.underlying63 info_3 rfl rfl rfl rfl rfl rfl rfl rfl (by omega) (by omega) rfl (fun v13 => ?_)))))))))
    simp only [sc0, scS]
    refine At.drop 0 ?_
    simp only [ec0, ecS]
    refine tA rfl rfl (At.nil (At.blkN (At.thenN (At.region ?_))))
    first | refine tV (Val.addI rfl rfl (by omega) (by omega)) rfl ?_ | refine tV (Val.bin rfl rfl rfl) rfl ?_
    refine tM rfl rfl (tE (At.drop 0 ?_))
    simp only [ec0, ecS]
    exact At.again (k + 1, v13) ⟨(show k + 1 ≤ _ by omega), PlK_succ hpl hqk (by assumption) (by assumption)⟩ (by dsimp only; omega) (Sub.cons rfl (Sub.cons rfl (Sub.cons rfl (Sub.cons rfl (Sub.cons rfl (Sub.cons rfl (Sub.cons (congrArg (fun z => some (Value.int IntKind.i64 z)) (by dsimp only; omega)) Sub.nil))))))) (by dsimp only; rw [map_take_snoc hqk])
 ·try simp only [hasB, isSizeB, sB] at h2
  refine At.exitC (At.thenX (At.thenX (At.blkX (At.thenN (tR (tM rfl rfl (tA rfl rfl (tA rfl rfl (tE (At.retC (At.ret2 (.inl rfl) rfl rfl rfl rfl (fun w hw => ?_))))))))))))
  obtain rfl : k = cs.length := by omega
  obtain ⟨e1, e2⟩ := pl_yes hpl
  rw [e1, e2, ← List.take_length (l := cs)]
  exact ⟨_, rfl, (hw.drop (List.singleton_sublist.2 (List.mem_of_getElem? (i := 0) rfl))).f0⟩
end Go.Proofs.YtfchinibjhcejaaGreatDoor
namespace Go.Proofs.YtfchinibjhcejaaGreatDoor
open Go Go.Wk
def lnF (k : Nat) : Int := 64 * ((k / 8 : Nat) : Int)
def adF (k : Nat) : Int := 8 * (k : Int)
def lnL (ks : List Nat) : List Int := Lib.compact ((ks.map lnF).mergeSort fun x y => decide (x ≤ y))
def lnK (ks : List Nat) : List Nat := (lnL ks).map fun x => (x / 64).toNat
def stlA (ks : List Nat) : List Ac := (lnK ks).map Ac.fl ++ [.fe]
theorem lnL_ok (ks : List Nat) : (lnL ks).Pairwise (· < ·) ∧ ∀ x, x ∈ lnL ks ↔ ∃ k, k ∈ ks ∧ lnF k = x := by
  have h1 := List.pairwise_mergeSort (le := fun (x y : Int) => decide (x ≤ y)) (fun a b c h1 h2 => by simp at *; omega) (fun a b => by simp; omega) (ks.map lnF)
  obtain ⟨h2, h3⟩ := compact_ok (h1.imp fun h => by simpa using h)
  refine ⟨h2, fun x => ?_⟩
  show x ∈ Lib.compact _ ↔ _
  rw [h3 x, (List.mergeSort_perm (ks.map lnF) _).mem_iff, List.mem_map]
theorem lnL_len (ks : List Nat) : (lnL ks).length ≤ ks.length := by
  have := comp_len ((ks.map lnF).mergeSort fun x y => decide (x ≤ y))
  rw [List.length_mergeSort, List.length_map] at this
  exact this
theorem lnK_at {ks : List Nat} {j : Nat} {x : Int} (h : (lnL ks)[j]? = some x) : ∃ k K, k ∈ ks ∧ K = k / 8 ∧ x = 64 * (K : Int) ∧ (lnK ks)[j]? = some K := by
  obtain ⟨k, hk, he⟩ := (lnL_ok ks).2 x |>.1 (List.mem_of_getElem? h)
  refine ⟨k, k / 8, hk, rfl, he.symm, ?_⟩
  unfold lnK
  rw [List.getElem?_map, h, ← he]
  show some ((64 * ((k / 8 : Nat) : Int) / 64).toNat) = _
  congr 1
  omega
theorem lnK_len (ks : List Nat) : (lnK ks).length = (lnL ks).length := List.length_map ..
theorem stlA_len (ks : List Nat) : (stlA ks).length = (lnL ks).length + 1 := by unfold stlA; rw [List.length_append, List.length_map, lnK_len]; rfl
theorem stlA_at {ks : List Nat} {j K : Nat} (h : (lnK ks)[j]? = some K) : (stlA ks)[j]? = some (.fl K) := by
  have hj : j < ((lnK ks).map Ac.fl).length := by rw [List.length_map]; exact (List.getElem?_eq_some_iff.1 h).1
  unfold stlA
  rw [List.getElem?_append_left hj, List.getElem?_map, h]; rfl
theorem stlA_end (ks : List Nat) : (stlA ks).drop (lnL ks).length = [.fe] := by
  unfold stlA
  rw [List.drop_append_of_le_length (by rw [List.length_map, lnK_len]; exact Nat.le_refl _), List.drop_of_length_le (by rw [List.length_map, lnK_len]; exact Nat.le_refl _)]; rfl
theorem drop_consB {L : List Ac} {k : Nat} {a : Ac} (h : L[k]? = some a) : L.drop k = a :: L.drop (k + 1) := by
  have hk := List.getElem?_eq_some_iff.1 h
  rw [List.drop_eq_getElem_cons hk.1, hk.2]
theorem stlA_ok {ks : List Nat} {n : Nat} (h : ∀ k ∈ ks, k < n) : ∀ a ∈ stlA ks, AcOk n a := by
  intro a ha
  unfold stlA at ha
  rcases List.mem_append.1 ha with ha | ha
  · obtain ⟨K, hK, rfl⟩ := List.mem_map.1 ha
    obtain ⟨j, hj⟩ := List.getElem?_of_mem hK
    have hjl : j < (lnL ks).length := by rw [← lnK_len]; exact (List.getElem?_eq_some_iff.1 hj).1
    obtain ⟨k, K', hk, hK', _, h2⟩ := lnK_at (List.getElem?_eq_getElem hjl)
    rw [hj] at h2
    obtain rfl := Option.some.inj h2
    have := h k hk
    show 8 * K < n
    omega
  · rw [List.mem_singleton.1 ha]; trivial
theorem settle_d (p : Nat) (γ : Gh) (σ : Ds) (v : Value) (ks : List Nat) (w : World) (hv : RdI w v (ks.map adF)) (ho : Off v ((ks.map adF).map (Value.int .i64)) (feet [Dev p γ σ])) (hk : ∀ k ∈ ks, k < σ.ws.length) (hn : ks.length ≤ 1000) (hst : σ.steps + ks.length + 1 ≤ 1099511627776) (hd : (Dev p γ σ).holds w) :
    DevU Tryz.prog 91 [.pointer (some ⟨p, 0, none⟩), v] p γ σ (.int .i64 (actsE σ (stlA ks)).1) (actsE σ (stlA ks)).2 w := by
 refine enterVc hd Tryz.func91 rfl Tryz.ntmps91 rfl ?_
 have hgd := Dev.good hd
 have hln := hgd.len
 have hwl : (ks.map adF).length = ks.length := List.length_map ..
 simp only [envOf]
 refine tR (tA rfl rfl (tE (tR (tA rfl rfl (At.nil (At.rowNilI 3 (At.thenN (At.seq (tR (tM rfl rfl (tV (Val.lenRd hv Tryz.underlying63 rfl) rfl (tM rfl rfl (At.nil ?_)))))))))))))
 rw [hwl]
 refine At.thenN (At.block ?_)
 skip
 refine At.loop (σ := Nat × Value) (fun s => s.1 ≤ ks.length) (fun s => [(0, .pointer (some ⟨p, 0, none⟩)), (5, s.2), (11, v), (12, .int .i64 (ks.length : Int)), (13, .int .i64 (s.1 : Int))]) (fun s => [irow 3 s.2 ((ks.take s.1).map lnF), Dev p γ (σ)]) (fun s => ks.length - s.1) (0, .slice none 0 0) (Nat.zero_le _) (Sub.cons rfl (Sub.cons rfl (Sub.cons rfl (Sub.cons rfl (Sub.cons rfl Sub.nil))))) (List.Perm.refl _) ?_
 intro s hs
 obtain ⟨k, vk⟩ := s
 dsimp only at hs ⊢
 have hml : ((ks.take k).map lnF).length = k := by rw [List.length_map, List.length_take]; omega
 refine tR (tV (Val.bin rfl rfl rfl) rfl (tE (At.seq ?_)))
 refine At.cond rfl (fun h1 => ?_) (fun h1 => ?_)
 ·try simp only [hasB, isSizeB, sB] at h1
  refine At.skipC (At.thenN (At.seq (At.block (tR ?_))))
  obtain ⟨q, hq⟩ : ∃ q, ks[k]? = some q := ⟨_, List.getElem?_eq_getElem (by omega)⟩
  refine At.idxI' hv ho Tryz.underlying63 Tryz.sizeOf3 rfl rfl (by omega) (by rw [List.length_map]; omega) rfl rfl (fun bx ox cx hcx hcc hox => ?_)
  rw [Int.toNat_natCast] at hcx
  obtain rfl : 8 * (q : Int) = cx := by rw [List.getElem?_map, hq] at hcx; exact Option.some.inj hcx
  have hqm := hk q (List.mem_of_getElem? hq)
  refine tV (Val.loadOld Tryz.isAgg3 rfl hcc hox) rfl (tA rfl rfl (tE (At.region (tM rfl rfl (tM rfl rfl ?_)))))
  first | refine tV (Val.quoI rfl rfl (by omega) (by omega) (by decide)) rfl ?_ | refine tV (Val.quo rfl rfl (by decide)) rfl ?_
  first | refine tV (Val.mulI rfl rfl (by omega) (by omega)) rfl ?_ | refine tV (Val.bin rfl rfl rfl) rfl ?_
  rw [show 8 * (q : Int) / 64 * 64 = lnF q from by unfold lnF; omega]
  refine At.buildSl (fun a ha => by simp only [List.map_toArray, List.map_cons, List.map_nil, ha.eval (x := (.tmp 20)) rfl]; try rfl) (bs_63_1 _ ) rfl (fun b2 => (At.appendI1 (i := 1) (j := 0) (by_ := 8) Tryz.underlying63 info_3 rfl rfl rfl rfl rfl rfl rfl rfl (by omega) (by omega) rfl (fun v3 => ?_)))
  simp only [sc0, scS]
  refine At.drop 0 ?_
  simp only [ec0, ecS]
  refine tA rfl rfl (At.nil (At.blkN (At.thenN (At.region ?_))))
  first | refine tV (Val.addI rfl rfl (by omega) (by omega)) rfl ?_ | refine tV (Val.bin rfl rfl rfl) rfl ?_
  refine tM rfl rfl (tE ?_)
  exact At.again (k + 1, v3) (show k + 1 ≤ _ by omega) (by dsimp only; omega) (Sub.cons rfl (Sub.cons rfl (Sub.cons rfl (Sub.cons rfl (Sub.cons (congrArg (fun z => some (Value.int IntKind.i64 z)) (by dsimp only; omega)) Sub.nil))))) (by dsimp only; rw [List.take_succ_of_get hq, List.map_append]; exact List.Perm.refl _)
 ·try simp only [hasB, isSizeB, sB] at h1
  refine At.exitC (At.thenX (At.thenX (At.blkX (At.thenN (At.seq ?_)))))
  obtain rfl : k = ks.length := by omega
  rw [List.take_length]
  refine At.region (tM rfl rfl ?_)
  refine At.call1 0 rfl (fun w hw hr => sort_u _ _ w hr (by rw [List.length_map]; omega)) Tryz.call95 rfl rfl ?_
  simp only [sc0, scS]
  refine tE (At.seq (tR (tM rfl rfl (At.callR 0 rfl (fun w hw hr => comp_u _ _ w hr) Tryz.call120 rfl rfl (fun v4 => ?_)))))
  simp only [sc0, scS]
  obtain ⟨D, hD⟩ : ∃ D, D = Lib.compact ((ks.map lnF).mergeSort fun x y => decide (x ≤ y)) := ⟨_, rfl⟩
  rw [← hD]
  have hDL : D = lnL ks := hD
  have hDl : D.length ≤ ks.length := by rw [hDL]; exact lnL_len ks
  refine tV (Val.lenRow (i := 0) Tryz.underlying63 rfl rfl) rfl (tM rfl rfl (tE (At.block ?_)))
  skip
  refine At.loop (σ := Nat × Ds × Gh) (fun s => s.1 ≤ D.length ∧ actsE σ (stlA ks) = actsE s.2.1 ((stlA ks).drop s.1) ∧ s.2.1.ws.length = σ.ws.length ∧ s.2.1.steps = σ.steps + s.1) (fun s => [(0, .pointer (some ⟨p, 0, none⟩)), (27, v4), (28, .int .i64 (D.length : Int)), (29, .int .i64 (s.1 : Int))]) (fun s => [rowR v4 3 1 ((D).length) ((D).map (Value.int .i64)), Dev p s.2.2 s.2.1]) (fun s => D.length - s.1) (0, σ, γ) ⟨Nat.zero_le _, rfl, rfl, rfl⟩ (Sub.cons rfl (Sub.cons rfl (Sub.cons rfl (Sub.cons rfl Sub.nil)))) (List.Perm.refl _) ?_
  intro s hs
  obtain ⟨j, σ1, γ1⟩ := s
  dsimp only at hs ⊢
  obtain ⟨hj, hae, hl1, hs1⟩ := hs
  refine tR (tV (Val.bin rfl rfl rfl) rfl (tE (At.seq ?_)))
  refine At.cond rfl (fun h5 => ?_) (fun h5 => ?_)
  ·try simp only [hasB, isSizeB, sB] at h5
   refine At.skipC (At.thenN (At.seq (At.block (tR ?_))))
   obtain ⟨x, hx⟩ : ∃ x, D[j]? = some x := ⟨_, List.getElem?_eq_getElem (by omega)⟩
   obtain ⟨kk, K, hkk, hK, rfl, hKj⟩ := lnK_at (by rw [← hDL]; exact hx)
   have hKn := hk kk hkk
   refine tV (Val.indexRow (i := 0) j (by omega) Tryz.underlying63 Tryz.sizeOf3 rfl rfl rfl (by omega) (by omega)) rfl ?_
   refine tV (Val.loadRow (u := .int .i64 (64 * (K : Int))) (i := 0) Tryz.isAgg3 rfl rfl (by rw [List.getElem?_map, hx]; rfl)) rfl ?_
   refine tA rfl rfl (tE (tR (tM rfl rfl (tM rfl rfl ?_))))
   cases hdb : deadB σ1
   ·refine At.callD 1 rfl (fun w hw hr => (by have h0 := flush_d _ _ σ1 (64 * (K : Int)) (8 * K) w (by omega) (by omega) (by omega) (by omega) hdb hr; exact h0)) Tryz.call119 rfl rfl (fun y6 => ?_)
    simp only [sc0, scS]
    refine tA rfl rfl (tE (tR (tM rfl rfl (tV (Val.bin rfl rfl rfl) rfl (tE (At.condF rfl (At.skipC (At.blkN (At.thenN (At.region ?_))))))))))
    first | refine tV (Val.addI rfl rfl (by omega) (by omega)) rfl ?_ | refine tV (Val.bin rfl rfl rfl) rfl ?_
    refine tM rfl rfl (tE ?_)
    exact At.again (j + 1, lineD σ1 K, y6) (by obtain ⟨s1, s2, s3⟩ := lineD_rest σ1 K; exact ⟨(show j + 1 ≤ _ by omega), by dsimp only; rw [hae, drop_consB (stlA_at hKj), actsE_live hdb]; rfl, s3.trans hl1, by dsimp only; omega⟩) (by dsimp only; omega) (Sub.cons rfl (Sub.cons rfl (Sub.cons rfl (Sub.cons (congrArg (fun z => some (Value.int IntKind.i64 z)) (by dsimp only; omega)) Sub.nil)))) (List.Perm.refl _)
   ·refine At.callK 1 rfl (fun w hw hr => flush_0 _ _ _ (64 * (K : Int)) w (by omega) (by omega) hdb hr) Tryz.call119 rfl rfl (tA rfl rfl (tE (tR (tM rfl rfl (tV (Val.bin rfl rfl rfl) rfl (tE (At.condT rfl (tR (tM rfl rfl (tA rfl rfl (tE (At.retC (At.blkR (At.thenR (At.thenR (At.blkR (At.thenR (At.ret1 (.inl rfl) rfl rfl rfl (fun w hw => ?_)))))))))))))))))))
    rw [hae, drop_consB (stlA_at hKj), actsE_dead hdb]
    exact ⟨_, rfl, hw.drop (List.singleton_sublist.2 (List.mem_of_getElem? (i := 1) rfl))⟩
  ·try simp only [hasB, isSizeB, sB] at h5
   refine At.exitC (At.thenX (At.thenX (At.blkX (At.thenN (tR (tM rfl rfl ?_))))))
   cases hdb : deadB σ1
   ·refine At.callD 1 rfl (fun w hw hr => fence_d _ _ σ1 w (by omega) hdb hr) Tryz.call89 rfl rfl (fun y7 => ?_)
    simp only [sc0, scS]
    refine tA rfl rfl (tE (At.retC (At.ret1 (.inl rfl) rfl rfl rfl (fun w hw => ?_))))
    obtain rfl : j = D.length := by omega
    rw [hDL, stlA_end, actsE_live hdb] at hae
    rw [hae]
    exact ⟨_, rfl, hw.drop (List.singleton_sublist.2 (List.mem_of_getElem? (i := 1) rfl))⟩
   ·refine At.callK 1 rfl (fun w hw hr => fence_0 _ _ _ w hdb hr) Tryz.call89 rfl rfl (tA rfl rfl (tE (At.retC (At.ret1 (.inl rfl) rfl rfl rfl (fun w hw => ?_)))))
    obtain rfl : j = D.length := by omega
    rw [hDL, stlA_end, actsE_dead hdb] at hae
    rw [hae]
    exact ⟨_, rfl, hw.drop (List.singleton_sublist.2 (List.mem_of_getElem? (i := 1) rfl))⟩
end Go.Proofs.YtfchinibjhcejaaGreatDoor
namespace Go.Proofs.YtfchinibjhcejaaGreatDoor
open Go Go.Wk
theorem QAt.idxWO {P : Program} {Γ : Ctx} {E : Env} {H : List Res} {ops : Array Oper} {rest : List Oper} {ψ : Act → Prop} {d : Nat} {ty : TypeId} {pos : String} {after : Array Edge} {x y : Operand} {v : Value} {t el j : Nat} {l : List (BitVec 64)} {k : IntKind} {z : BitVec 64} {g : Option (Nat × Bool)} (h : RdW Γ.w0 v l) (ho : Off v (l.map b64) Γ.S) (hu : P.underlying t = some (.slice el)) (hs : ∀ w, (sizeOf el).run P w = .ok 1 w) (hx : ev E x = some v) (hy : ev E y = some (.int k (j : Int))) (hz : l[j]? = some z)
    (hg : g = none) (hn : Nat.blt d Γ.n = true)
    (c : ∀ b o, Γ.w0.cell? ⟨b, o, none⟩ = some (b64 z) → ¬ Γ.S b → QAt P Γ ops ((d, .pointer (some ⟨b, o, none⟩)) :: E) H rest ψ) :
    QAt P Γ ops E H ({ dst := some d, op := .indexAddr t x y, type := ty, pos, after, guard := g } :: rest) ψ := by
  have hj := (List.getElem?_eq_some_iff.1 hz).1
  obtain ⟨b, o, cap, rfl, hc⟩ := h.at (j := j) (by simpa using hj)
  exact QAt.val (Val.indexSl _ rfl hu hs hx hy (by omega) (by omega)) hg rfl hn (c b _ (by have := hc 0 _ (by rw [Nat.mul_one, Nat.add_zero, List.getElem?_map, hz]; rfl); rwa [Nat.add_zero] at this) (ho (fun e => by rw [List.map_eq_nil_iff] at e; subst e; simp at hj) b _ _ _ _ rfl))
def chA (ks : List Nat) (xs : List (BitVec 64)) : List Ac := (ks.zip xs).map (fun c => Ac.st c.1 c.2) ++ stlA ks
theorem chA_at {ks : List Nat} {xs : List (BitVec 64)} {j k : Nat} {x : BitVec 64} (hk : ks[j]? = some k) (hx : xs[j]? = some x) : (chA ks xs)[j]? = some (.st k x) := by
  have e : (ks.zip xs)[j]? = some (k, x) := List.getElem?_zip_eq_some.2 ⟨hk, hx⟩
  have hj := (List.getElem?_eq_some_iff.1 e).1
  unfold chA
  rw [List.getElem?_append_left (by rw [List.length_map]; exact hj), List.getElem?_map, e]; rfl
theorem chA_end {ks : List Nat} {xs : List (BitVec 64)} (h : xs.length = ks.length) : (chA ks xs).drop ks.length = stlA ks := by
  unfold chA
  have hl : ((ks.zip xs).map (fun c => Ac.st c.1 c.2)).length = ks.length := by rw [List.length_map, List.length_zip, h, Nat.min_self]
  rw [← hl, List.drop_left]
theorem store1_d (p : Nat) (γ : Gh) (σ : Ds) (bD bA bV k : Nat) (x : BitVec 64) (w : World) (cbD : w.cell? ⟨bD, 0, none⟩ = some (.pointer (some ⟨p, 0, none⟩))) (nbD : ¬ feet [Dev p γ σ] bD) (cbA : w.cell? ⟨bA, 0, none⟩ = some (.int .i64 (8 * (k : Int)))) (nbA : ¬ feet [Dev p γ σ] bA) (cbV : w.cell? ⟨bV, 0, none⟩ = some (b64 x)) (nbV : ¬ feet [Dev p γ σ] bV) (hk : k < σ.ws.length) (hst : σ.steps + 3 ≤ 1099511627776) (hd : (Dev p γ σ).holds w) :
    DevU Tryz.prog 90 [.pointer (some ⟨bD, 0, none⟩), .pointer (some ⟨bA, 0, none⟩), .pointer (some ⟨bV, 0, none⟩)] p γ σ (.int .i64 (actsE σ (.st k x :: stlA [k])).1) (actsE σ (.st k x :: stlA [k])).2 w := by
 refine enterVc hd Tryz.func90 rfl Tryz.ntmps90 rfl ?_
 have hgd := Dev.good hd
 have hln := hgd.len
 obtain ⟨r1, r2, r3⟩ := storeD_rest (σ := σ) x hk
 simp only [envOf]
 refine tR (tA rfl rfl (tE (At.seq (tR (tV (Val.loadOld Tryz.isAgg51 rfl cbD nbD) rfl (tV (Val.loadOld Tryz.isAgg3 rfl cbA nbA) rfl (tV (Val.loadOld Tryz.isAgg43 rfl cbV nbV) rfl ?_)))))))
 obtain ⟨wd, hwd⟩ : ∃ wd, σ.ws[k]? = some wd := ⟨_, List.getElem?_eq_getElem hk⟩
 cases hdb : deadB σ
 ·refine At.callD 0 rfl (fun w hw hr => (storeD_some (x := x) hwd) ▸ store_d _ _ σ k wd x w hwd (by omega) hdb hr) Tryz.call87 rfl rfl (fun y1 => ?_)
  simp only [sc0, scS]
  refine tA rfl rfl (tE (tR (tM rfl rfl (tV (Val.bin rfl rfl rfl) rfl (tE (At.condF rfl (At.skipC (At.thenN (tR (tV (Val.loadOld Tryz.isAgg51 rfl cbD nbD) rfl (tV (Val.loadOld Tryz.isAgg3 rfl cbA nbA) rfl (At.buildRow (fun a ha => by simp only [List.map_toArray, List.map_cons, List.map_nil, ha.eval (x := (.tmp 13)) rfl]; try rfl) (bs_63_1 _) 1 rfl (by decide) rfl (fun v2 => ?_)))))))))))))
  change At _ _ (irow 3 v2 ([k].map adF) :: _) _
  refine At.callD 1 rfl (fun w hw hr => settle_d _ _ _ _ [k] w (row_rd (hw.row (i := 0) rfl) (by decide)) (Rep.offRow (i := 0) (j := 1) hw rfl rfl (by decide)) (by intro k' hk'; simp only [List.mem_singleton] at hk'; subst hk'; omega) (by simp) (by simp only [List.length_singleton]; omega) hr) Tryz.call91 rfl rfl (fun y3 => ?_)
  simp only [sc0, scS]
  refine tA rfl rfl (tE (At.retC (At.ret1 (.inl rfl) rfl rfl rfl (fun w hw => ?_))))
  rw [actsE_live hdb]
  exact ⟨_, rfl, hw.drop (List.singleton_sublist.2 (List.mem_of_getElem? (i := 1) rfl))⟩
 ·refine At.callK 0 rfl (fun w hw hr => store_0 _ _ _ _ _ w (place_at hk) hdb hr) Tryz.call87 rfl rfl (tA rfl rfl (tE (tR (tM rfl rfl (tV (Val.bin rfl rfl rfl) rfl (tE (At.condT rfl (tR (tM rfl rfl (tA rfl rfl (tE (At.retC (At.thenR (At.ret1 (.inl rfl) rfl rfl rfl (fun w hw => ?_)))))))))))))))
  rw [actsE_dead hdb]
  exact ⟨_, rfl, hw.drop (List.singleton_sublist.2 (List.mem_of_getElem? (i := 0) rfl))⟩
theorem change1_d (p : Nat) (γ : Gh) (σ : Ds) (bA bD bV : Nat) (vA vV : Value) (ks : List Nat) (xs : List (BitVec 64)) (w : World) (cbA : w.cell? ⟨bA, 0, none⟩ = some vA) (nbA : ¬ feet [Dev p γ σ] bA) (cbD : w.cell? ⟨bD, 0, none⟩ = some (.pointer (some ⟨p, 0, none⟩))) (nbD : ¬ feet [Dev p γ σ] bD) (cbV : w.cell? ⟨bV, 0, none⟩ = some vV) (nbV : ¬ feet [Dev p γ σ] bV) (hvA : RdI w vA (ks.map adF)) (hoA : Off vA ((ks.map adF).map (Value.int .i64)) (feet [Dev p γ σ])) (hvV : RdW w vV xs) (hoV : Off vV (xs.map b64) (feet [Dev p γ σ])) (hxl : xs.length = ks.length) (hk : ∀ k ∈ ks, k < σ.ws.length) (hn : ks.length ≤ 1000) (hst : σ.steps + 2 * ks.length + 1 ≤ 1099511627776) (hd : (Dev p γ σ).holds w) :
    DevU Tryz.prog 93 [.pointer (some ⟨bA, 0, none⟩), .pointer (some ⟨bD, 0, none⟩), .pointer (some ⟨bV, 0, none⟩)] p γ σ (.int .i64 (actsE σ (chA ks xs)).1) (actsE σ (chA ks xs)).2 w := by
 refine enterVc hd Tryz.func93 rfl Tryz.ntmps93 rfl ?_
 have hgd := Dev.good hd
 have hln := hgd.len
 have hwl : (ks.map adF).length = ks.length := List.length_map ..
 simp only [envOf]
 refine tR (tA rfl rfl (tE (At.seq (tR (tV (Val.loadOld Tryz.isAgg63 rfl cbA nbA) rfl (tV (Val.lenRd hvA Tryz.underlying63 rfl) rfl (tM rfl rfl (At.nil ?_))))))))
 rw [hwl]
 refine At.thenN (At.block ?_)
 skip
 refine At.loop (σ := Nat × Ds × Gh) (fun s => s.1 ≤ ks.length ∧ actsE σ (chA ks xs) = actsE s.2.1 ((chA ks xs).drop s.1) ∧ s.2.1.ws.length = σ.ws.length ∧ s.2.1.steps = σ.steps + s.1) (fun s => [(0, .pointer (some ⟨bA, 0, none⟩)), (1, .pointer (some ⟨bD, 0, none⟩)), (2, .pointer (some ⟨bV, 0, none⟩)), (7, vA), (8, .int .i64 (ks.length : Int)), (9, .int .i64 (s.1 : Int))]) (fun s => [Dev p s.2.2 s.2.1]) (fun s => ks.length - s.1) (0, σ, γ) ⟨Nat.zero_le _, rfl, rfl, rfl⟩ (Sub.cons rfl (Sub.cons rfl (Sub.cons rfl (Sub.cons rfl (Sub.cons rfl (Sub.cons rfl Sub.nil)))))) (List.Perm.refl _) ?_
 intro s hs
 obtain ⟨j, σ1, γ1⟩ := s
 dsimp only at hs ⊢
 obtain ⟨hj, hae, hl1, hs1⟩ := hs
 refine tR (tV (Val.bin rfl rfl rfl) rfl (tE (At.seq ?_)))
 refine At.cond rfl (fun h1 => ?_) (fun h1 => ?_)
 ·try simp only [hasB, isSizeB, sB] at h1
  refine At.skipC (At.thenN (At.seq (At.block (tR (tM rfl rfl ?_)))))
  obtain ⟨k, hkj⟩ : ∃ k, ks[j]? = some k := ⟨_, List.getElem?_eq_getElem (by omega)⟩
  obtain ⟨x, hxj⟩ : ∃ x, xs[j]? = some x := ⟨_, List.getElem?_eq_getElem (by omega)⟩
  have hkm := hk k (List.mem_of_getElem? hkj)
  refine At.idxI' hvA hoA Tryz.underlying63 Tryz.sizeOf3 rfl rfl (by omega) (by rw [List.length_map]; omega) rfl rfl (fun bx ox cx hcx hcc hox => ?_)
  rw [Int.toNat_natCast] at hcx
  obtain rfl : 8 * (k : Int) = cx := by rw [List.getElem?_map, hkj] at hcx; exact Option.some.inj hcx
  refine tV (Val.loadOld Tryz.isAgg3 rfl hcc hox) rfl (tA rfl rfl (tA rfl rfl (tE (At.seq (At.tail 6 rfl (by decide +kernel) ?_)))))
  simp only [List.take_succ_cons, List.take_zero, List.drop_succ_cons, List.drop_zero]
  refine qV (Val.loadOld Tryz.isAgg51 rfl cbD nbD) rfl (qM rfl rfl (qV (Val.loadOld Tryz.isAgg98 rfl cbV nbV) rfl (qM rfl rfl (QAt.idxWO hvV hoV Tryz.underlying98 Tryz.sizeOf43 rfl rfl hxj rfl rfl (fun by_ oy hcy hoy => (qV (Val.loadOld Tryz.isAgg43 rfl hcy hoy) rfl (QAt.fin ?_)))))))
  obtain ⟨wd, hwd⟩ : ∃ wd, σ1.ws[k]? = some wd := ⟨_, List.getElem?_eq_getElem (by omega)⟩
  cases hdb : deadB σ1
  ·refine At.callD 0 rfl (fun w hw hr => (storeD_some (x := x) hwd) ▸ store_d _ _ σ1 k wd x w hwd (by omega) hdb hr) Tryz.call87 rfl rfl (fun y2 => ?_)
   simp only [sc0, scS]
   refine tA rfl rfl (tE (tR (tM rfl rfl (tV (Val.bin rfl rfl rfl) rfl (tE (At.condF rfl (At.skipC (At.blkN (At.thenN (At.region ?_))))))))))
   first | refine tV (Val.addI rfl rfl (by omega) (by omega)) rfl ?_ | refine tV (Val.bin rfl rfl rfl) rfl ?_
   refine tM rfl rfl (tE ?_)
   exact At.again (j + 1, storeD σ1 k x, y2) (by obtain ⟨s1, s2, s3⟩ := storeD_rest (σ := σ1) x (show k < σ1.ws.length by omega); exact ⟨(show j + 1 ≤ _ by omega), by dsimp only; rw [hae, drop_consB (chA_at hkj hxj), actsE_live hdb]; rfl, s3.trans hl1, by dsimp only; omega⟩) (by dsimp only; omega) (Sub.cons rfl (Sub.cons rfl (Sub.cons rfl (Sub.cons rfl (Sub.cons rfl (Sub.cons (congrArg (fun z => some (Value.int IntKind.i64 z)) (by dsimp only; omega)) Sub.nil)))))) (List.Perm.refl _)
  ·refine At.callK 0 rfl (fun w hw hr => store_0 _ _ _ _ _ w (place_at (by omega)) hdb hr) Tryz.call87 rfl rfl (tA rfl rfl (tE (tR (tM rfl rfl (tV (Val.bin rfl rfl rfl) rfl (tE (At.condT rfl (tR (tM rfl rfl (tA rfl rfl (tE (At.retC (At.blkR (At.thenR (At.thenR (At.blkR (At.thenR (At.ret1 (.inl rfl) rfl rfl rfl (fun w hw => ?_)))))))))))))))))))
   rw [hae, drop_consB (chA_at hkj hxj), actsE_dead hdb]
   exact ⟨_, rfl, hw⟩
 ·try simp only [hasB, isSizeB, sB] at h1
  refine At.exitC (At.thenX (At.thenX (At.blkX (At.thenN (tR (tV (Val.loadOld Tryz.isAgg51 rfl cbD nbD) rfl (tV (Val.loadOld Tryz.isAgg63 rfl cbA nbA) rfl ?_)))))))
  refine At.callD 0 rfl (fun w hw hr => settle_d _ _ _ _ ks w (Rd.keep hvA hw hoA) (Rep.offOld hw hvA hoA (List.mem_of_getElem? (i := 0) rfl)) (by intro k' hk'; have := hk k' hk'; omega) hn (by omega) hr) Tryz.call91 rfl rfl (fun y3 => ?_)
  simp only [sc0, scS]
  refine tA rfl rfl (tE (At.retC (At.ret1 (.inl rfl) rfl rfl rfl (fun w hw => ?_))))
  obtain rfl : j = ks.length := by omega
  rw [chA_end hxl] at hae
  rw [hae]
  exact ⟨_, rfl, hw⟩
end Go.Proofs.YtfchinibjhcejaaGreatDoor
namespace Go.Wk
open Go
section
variable {P : Program} {Γ : Ctx} {E E' : Env} {H : List Res} {ops : Array Oper} {Q : Exit → Act → World → Prop} {rest : List Oper}
  {d : Nat} {ty : TypeId} {pos : String} {after : Array Edge} {x y : Operand} {v u : Value}
theorem At.rowCap {i e sz n c : Nat} {A : Option Addr} {xs : List Value} {φ : Act → World → Prop} (hi : H[i]? = some (rowR (.slice A n c) e sz n xs)) (k : n ≤ c → At Γ E H φ) : At Γ E H φ := fun a w ha hw => by
  rcases (hw.row hi).2 with ⟨_, h⟩ | ⟨b, cap, cur, h, h1⟩
  · exact k (by omega) a w ha hw
  · simp only [Value.slice.injEq] at h
    obtain ⟨_, _, rfl⟩ := h
    exact k (by have := h1; omega) a w ha hw
end
end Go.Wk
namespace Go.Wk
open Go
section
variable {P : Program} {Γ : Ctx} {E E' : Env} {H : List Res} {ops : Array Oper} {Q : Exit → Act → World → Prop} {rest : List Oper}
  {d : Nat} {ty : TypeId} {pos : String} {after : Array Edge} {x y : Operand} {v u : Value}
theorem Val.loadRowPart {gd : Option (Nat × Bool)} {dst : Option Nat} {i t e sz n m q : Nat} {xs vs : List Value} (hA : ∀ w, (isAgg t).run P w = .ok true w) (hs : ∀ w, (sizeOf t).run P w = .ok m w) (hx : ev E x = some (.pointer (some ⟨rowB v, q, none⟩))) (hi : H[i]? = some (rowR v e sz n xs)) (hl : vs.length = m)
    (hc : ∀ j u, vs[j]? = some u → xs[q + j]? = some u) : Val P Γ E H ⟨dst, .load t x, ty, pos, after, gd⟩ (.agg vs.toArray) := fun a w ha hw => by
  have hld := run_loadCells_list (P := P) w ⟨rowB v, q, none⟩ vs (fun j u hj => by rw [Addr.add_off]; exact row_cell (hw.all _ (List.mem_of_getElem? hi)) (hc j u hj))
  rw [hl] at hld
  simp only [execOp, ha.eval hx, Instr.loadAt, Instr.sureAddr, loadVar, Sem.run_bind, Sem.run_pure, Result.andThen_ok, hA, if_true, hs, hld]
end
theorem Tab.modS {w w' : World} {S : Nat → Prop} (h : Tab w) (hm : Mod S w w') (h0 : ¬ S 0) : Tab w' := fun i hi => by
  have hc := h i hi
  have := hm.old 0 (block_lt_of_cell hc) h0
  unfold World.cell? at *
  rw [this]; exact hc
theorem Tab.old {w : World} (h : Tab w) : 0 < w.heap.size := block_lt_of_cell (h 0 (by decide))
end Go.Wk
namespace Go.Proofs.YtfchinibjhcejaaGreatDoor
open Go Go.Wk
def nowAt (σ : Ds) (k : Nat) : BitVec 64 := match σ.ws[k]? with | some w => nowW w | none => 0
theorem nowAt_some {σ : Ds} {k : Nat} {w : Wd} (h : σ.ws[k]? = some w) : nowAt σ k = nowW w := by unfold nowAt; rw [h]
def recW (σ : Ds) (ks : List Nat) : List (BitVec 64) := ks.flatMap fun (k : Nat) => [BitVec.ofInt 64 (8 * (k : Int)), nowAt σ k]
theorem recW_snoc (σ : Ds) (ks : List Nat) (k : Nat) : recW σ (ks ++ [k]) = recW σ ks ++ [BitVec.ofInt 64 (8 * (k : Int)), nowAt σ k] := by simp [recW]
theorem recW_len (σ : Ds) (ks : List Nat) : (recW σ ks).length = 2 * ks.length := by
  induction ks with
  | nil => rfl
  | cons k ks ih => show (_ ++ recW σ ks).length = _; rw [List.length_append, ih]; simp only [List.length_cons, List.length_nil]; omega
theorem bytesW_w (W : List (BitVec 64)) : bytesW W = wbytes W := rfl
def wrB (W : List (BitVec 64)) : List Ac := .st 65 (sealW (BitVec.ofInt 64 520) (sumOn 0 (wbytes W))) :: (flA 8 (cntL 512 (64 + 8 * W.length)) ++ [.fe])
def wrA (W : List (BitVec 64)) : List Ac := stA 72 W ++ wrB W
theorem cnt_le {a n : Nat} (h : n ≤ 256 := by omega) : cntL a n ≤ 6 ∧ (8 * (a / 64 + cntL a n)) * 8 < a + n + 64 + (if n = 0 then a else 0) := by
  unfold cntL
  split
  · rename_i h0; subst h0; simp; omega
  · omega
theorem sum_rd {v : Value} (l : List UInt8) (w : World) (h : RdB w v l) (ht : Tab w) (hl : l.length ≤ 140737488355328) : PureC Tryz.prog 75 [v] (b32 (sumOn 0 l)) w := by
  obtain ⟨A, c, rfl, hb, _⟩ := h.bytes
  exact sum_p A l c w hb ht hl
theorem write1_d (p : Nat) (γ : Gh) (σ : Ds) (bA bD : Nat) (vA : Value) (ks : List Nat) (w : World) (ht : Tab w) (hf : ¬ feet [Dev p γ σ] 0) (cbA : w.cell? ⟨bA, 0, none⟩ = some vA) (nbA : ¬ feet [Dev p γ σ] bA) (cbD : w.cell? ⟨bD, 0, none⟩ = some (.pointer (some ⟨p, 0, none⟩))) (nbD : ¬ feet [Dev p γ σ] bD) (hvA : RdI w vA (ks.map adF)) (hoA : Off vA ((ks.map adF).map (Value.int .i64)) (feet [Dev p γ σ])) (hk : ∀ k ∈ ks, k < σ.ws.length) (hn : ks.length ≤ 8) (hN : 512 ≤ σ.ws.length) (hst : σ.steps + 60 ≤ 1099511627776) (hd : (Dev p γ σ).holds w) :
    DevU Tryz.prog 84 [.pointer (some ⟨bA, 0, none⟩), .pointer (some ⟨bD, 0, none⟩)] p γ σ (.int .i64 (actsE σ (wrA (recW σ ks))).1) (actsE σ (wrA (recW σ ks))).2 w := by
 refine enterVc hd Tryz.func84 rfl Tryz.ntmps84 rfl ?_
 have hgd := Dev.good hd
 have hln := hgd.len
 have hwl : (ks.map adF).length = ks.length := List.length_map ..
 simp only [envOf]
 refine tR (tA rfl rfl (tE (tR (tA rfl rfl (At.nil (At.rowNilW 43 (At.thenN (At.seq (tR (tV (Val.loadOld Tryz.isAgg63 rfl cbA nbA) rfl (tV (Val.lenRd hvA Tryz.underlying63 rfl) rfl (tM rfl rfl (At.nil ?_)))))))))))))
 rw [hwl]
 refine At.thenN (At.block ?_)
 skip
 refine At.loop (σ := Nat × Value) (fun s => s.1 ≤ ks.length) (fun s => [(1, .pointer (some ⟨bD, 0, none⟩)), (2, .int .i64 0), (3, s.2), (12, vA), (13, .int .i64 (ks.length : Int)), (14, .int .i64 (s.1 : Int))]) (fun s => [wrow 43 s.2 (recW σ (ks.take s.1)), Dev p γ (σ)]) (fun s => ks.length - s.1) (0, .slice none 0 0) (Nat.zero_le _) (Sub.cons rfl (Sub.cons rfl (Sub.cons rfl (Sub.cons rfl (Sub.cons rfl (Sub.cons rfl Sub.nil)))))) (List.Perm.refl _) ?_
 intro s hs
 obtain ⟨j, vk⟩ := s
 dsimp only at hs ⊢
 have hml : (recW σ (ks.take j)).length = 2 * j := by rw [recW_len, List.length_take]; omega
 refine tR (tV (Val.bin rfl rfl rfl) rfl (tE (At.seq ?_)))
 refine At.cond rfl (fun h1 => ?_) (fun h1 => ?_)
 ·try simp only [hasB, isSizeB, sB] at h1
  refine At.skipC (At.thenN (At.seq (At.block (tR ?_))))
  obtain ⟨k, hkj⟩ : ∃ k, ks[j]? = some k := ⟨_, List.getElem?_eq_getElem (by omega)⟩
  have hkm := hk k (List.mem_of_getElem? hkj)
  obtain ⟨wd, hwd⟩ : ∃ wd, σ.ws[k]? = some wd := ⟨_, List.getElem?_eq_getElem hkm⟩
  refine At.idxI' hvA hoA Tryz.underlying63 Tryz.sizeOf3 rfl rfl (by omega) (by rw [List.length_map]; omega) rfl rfl (fun bx ox cx hcx hcc hox => ?_)
  rw [Int.toNat_natCast] at hcx
  obtain rfl : 8 * (k : Int) = cx := by rw [List.getElem?_map, hkj] at hcx; exact Option.some.inj hcx
  refine tV (Val.loadOld Tryz.isAgg3 rfl hcc hox) rfl (tA rfl rfl (tE (tR (tV (Val.loadOld Tryz.isAgg51 rfl cbD nbD) rfl (tM rfl rfl (At.callK 1 rfl (fun w hw hr => word_k _ _ σ k wd w hwd hr) Tryz.call85 rfl rfl (tM rfl rfl (tV (Val.extract rfl rfl) rfl (tV (Val.extract rfl rfl) rfl (tA rfl rfl (tA rfl rfl (tE (At.seq (tR (tM rfl rfl (tV (Val.bin rfl rfl rfl) rfl (tE (At.condF rfl (At.skipC (At.thenN (At.region (tM rfl rfl (tM rfl rfl (tV (Val.conv Tryz.underlying3 Tryz.underlying43 rfl) rfl ?_))))))))))))))))))))))))
  rw [wrap_u64_int (8 * (k : Int))]
  refine tM rfl rfl (At.buildSl (fun a ha => by simp only [List.map_toArray, List.map_cons, List.map_nil, ha.eval (x := (.tmp 29)) rfl, ha.eval (x := (.tmp 30)) rfl]; try rfl) (bs_98_2 _ _ ) rfl (fun b2 => ?_))
  refine At.appendWs (i := 1) (j := 0) (ms := [BitVec.ofInt 64 (8 * (k : Int)), nowW wd]) (by_ := 8) Tryz.underlying98 info_43 rfl rfl rfl rfl rfl rfl rfl rfl rfl (by first | omega | (simp only [List.length_cons, List.length_nil]; omega)) (by first | omega | (simp only [List.length_cons, List.length_nil]; omega)) rfl (fun v3 => ?_)
  simp only [sc0, scS]
  refine At.drop 0 ?_
  simp only [ec0, ecS]
  refine tA rfl rfl (At.nil (At.blkN (At.thenN (At.region ?_))))
  first | refine tV (Val.addI rfl rfl (by omega) (by omega)) rfl ?_ | refine tV (Val.bin rfl rfl rfl) rfl ?_
  refine tM rfl rfl (tE ?_)
  exact At.again (j + 1, v3) (show j + 1 ≤ _ by omega) (by dsimp only; omega) (Sub.cons rfl (Sub.cons rfl (Sub.cons rfl (Sub.cons rfl (Sub.cons rfl (Sub.cons (congrArg (fun z => some (Value.int IntKind.i64 z)) (by dsimp only; omega)) Sub.nil)))))) (by dsimp only; rw [List.take_succ_of_get hkj, recW_snoc, nowAt_some hwd])
 ·try simp only [hasB, isSizeB, sB] at h1
  refine At.exitC (At.thenX (At.thenX (At.blkX (At.thenN (At.seq ?_)))))
  obtain rfl : j = ks.length := by omega
  rw [List.take_length] at hml ⊢
  obtain ⟨W, hW⟩ : ∃ W, W = recW σ ks := ⟨_, rfl⟩
  rw [← hW] at hml ⊢
  obtain ⟨σ1, hσ1⟩ : ∃ s, s = (actsE σ (stA 72 W)).2 := ⟨_, rfl⟩
  obtain ⟨e1, he1⟩ : ∃ e, e = (actsE σ (stA 72 W)).1 := ⟨_, rfl⟩
  obtain ⟨a1, a2, a3, _⟩ := actsE_rest (stA 72 W) σ (stA_ok W 72 (by omega))
  have h01 := actsE_01 (stA 72 W) σ
  rw [← hσ1] at a1 a2 a3
  rw [← he1] at h01
  rw [stA_len] at a2
  have hbl : (wbytes W).length = 8 * W.length := wbytes_length W
  have hcw := cnt_le (a := 512) (n := 64 + 8 * W.length)
  refine At.region (tM rfl rfl ?_)
  refine At.callN (fun w hw => (by have h0 := bytes_n _ W w (row_rd (hw.row (i := 0) rfl) (by decide)) (by omega); rw [bytesW_w] at h0; exact h0)) Tryz.call41 rfl rfl (fun v4 => (tA rfl rfl (tE (At.seq (tR (tV (Val.loadOld Tryz.isAgg51 rfl cbD nbD) rfl (tM rfl rfl ?_)))))))
  refine At.callD 2 rfl (fun w hw hr => (by have h0 := write_d _ _ σ 72 W.length _ (wbytes W) w (row_rd (hw.row (i := 0) rfl) (by decide)) (Rep.offRow (i := 0) (j := 2) hw rfl rfl (by decide)) hbl (by omega) (by omega) hr; rw [wordsL_wbytes, storesE_acts, ← hσ1, ← he1] at h0; exact h0)) Tryz.call86 rfl rfl (fun y5 => ?_)
  simp only [sc0, scS]
  refine tA rfl rfl (tE (tR (tM rfl rfl (tV (Val.bin rfl rfl rfl) rfl (tE ?_)))))
  refine At.cond rfl (fun h6 => ?_) (fun h6 => ?_)
  ·try simp only [hasB, isSizeB, sB] at h6
   refine tR (tM rfl rfl (tA rfl rfl (tE (At.retC (At.thenR (At.ret1 (.inl rfl) rfl rfl rfl (fun w hw => ?_)))))))
   have ea : actsE σ (wrA W) = (e1, σ1) := by unfold wrA; rw [actsE_stop (by rw [← he1]; omega), he1, hσ1]
   rw [ea]
   exact ⟨_, rfl, hw.drop (List.singleton_sublist.2 (List.mem_of_getElem? (i := 2) rfl))⟩
  ·try simp only [hasB, isSizeB, sB] at h6
   refine At.skipC (At.thenN (At.seq (At.seq (At.tail 4 rfl (by decide +kernel) ?_))))
   simp only [List.take_succ_cons, List.take_zero, List.drop_succ_cons, List.drop_zero]
   refine qV (Val.loadOld Tryz.isAgg51 rfl cbD nbD) rfl (qM rfl rfl (QAt.callP (fun w hw => sum_rd (wbytes W) w (row_rd (hw.row (i := 0) rfl) (by decide)) (ht.modS hw.mod hf) (by omega)) Tryz.call75 rfl rfl (QAt.callP (fun w hw => seal_p _ _ w (ht.modS hw.mod hf)) Tryz.call51 rfl rfl (QAt.fin ?_))))
   obtain ⟨wd, hwd⟩ : ∃ wd, σ1.ws[65]? = some wd := ⟨_, List.getElem?_eq_getElem (by omega)⟩
   obtain ⟨x, hx⟩ : ∃ x, x = sealW (BitVec.ofInt 64 520) (sumOn 0 (wbytes W)) := ⟨_, rfl⟩
   rw [← hx]
   obtain ⟨b1, b2, b3⟩ := storeD_rest (σ := σ1) (k := 65) x (by omega)
   cases hdb : deadB σ1
   ·refine At.callD 2 rfl (fun w hw hr => (storeD_some (x := x) hwd) ▸ store_d _ _ σ1 65 wd x w hwd (by omega) hdb hr) Tryz.call87 rfl rfl (fun y7 => ?_)
    simp only [sc0, scS]
    refine tA rfl rfl (tE (tR (tM rfl rfl (tV (Val.bin rfl rfl rfl) rfl (tE (At.condF rfl (At.skipC (At.thenN (At.seq (tR (tV (Val.loadOld Tryz.isAgg51 rfl cbD nbD) rfl (tM rfl rfl (tV (Val.lenRow (i := 0) Tryz.underlying29 rfl rfl) rfl ?_)))))))))))))
    first | refine tV (Val.addI rfl rfl (by omega) (by omega)) rfl ?_ | refine tV (Val.bin rfl rfl rfl) rfl ?_
    obtain ⟨σ3, hσ3⟩ : ∃ s, s = (actsE (storeD σ1 65 x) (flA 8 (cntL 512 (64 + 8 * W.length)))).2 := ⟨_, rfl⟩
    obtain ⟨e3, he3⟩ : ∃ e, e = (actsE (storeD σ1 65 x) (flA 8 (cntL 512 (64 + 8 * W.length)))).1 := ⟨_, rfl⟩
    obtain ⟨d1, d2, d3, _⟩ := actsE_rest (flA 8 (cntL 512 (64 + 8 * W.length))) (storeD σ1 65 x) (flA_ok _ 8 (by omega))
    have h03 := actsE_01 (flA 8 (cntL 512 (64 + 8 * W.length))) (storeD σ1 65 x)
    rw [← hσ3] at d1 d2 d3
    rw [← he3] at h03
    rw [flA_len] at d2
    refine At.callD 2 rfl (fun w hw hr => (by have h0 := flushAll_d _ _ (storeD σ1 65 x) 512 (64 + 8 * W.length) (cntL 512 (64 + 8 * W.length)) w (by omega) (cntL_P _ _) (by omega) hr; rw [linesE_acts, show (512 : Nat) / 64 = 8 from rfl, ← hσ3, ← he3] at h0; rw [show ((64 + 8 * W.length : Nat) : Int) = 64 + (8 * W.length : Nat) from by omega, ← hbl] at h0; exact h0)) Tryz.call88 rfl rfl (fun y8 => ?_)
    simp only [sc0, scS]
    refine tA rfl rfl (tE (tR (tM rfl rfl (tV (Val.bin rfl rfl rfl) rfl (tE ?_)))))
    refine At.cond rfl (fun h9 => ?_) (fun h9 => ?_)
    ·try simp only [hasB, isSizeB, sB] at h9
     refine tR (tM rfl rfl (tA rfl rfl (tE (At.retC (At.thenR (At.ret1 (.inl rfl) rfl rfl rfl (fun w hw => ?_)))))))
     have ea : actsE σ (wrA W) = actsE σ1 (wrB W) := by unfold wrA; rw [actsE_go (by rw [← he1]; assumption), ← hσ1]
     have eb : actsE σ1 (wrB W) = actsE (storeD σ1 65 x) (flA 8 (cntL 512 (64 + 8 * W.length)) ++ [.fe]) := by unfold wrB; rw [← hx, actsE_live hdb]; rfl
     have ec : actsE (storeD σ1 65 x) (flA 8 (cntL 512 (64 + 8 * W.length)) ++ [.fe]) = (e3, σ3) := by rw [actsE_stop (by rw [← he3]; omega), he3, hσ3]
     rw [ea, eb, ec]
     exact ⟨_, rfl, hw.drop (List.singleton_sublist.2 (List.mem_of_getElem? (i := 2) rfl))⟩
    ·try simp only [hasB, isSizeB, sB] at h9
     refine At.skipC (At.thenN (tR (tV (Val.loadOld Tryz.isAgg51 rfl cbD nbD) rfl ?_)))
     cases hdc : deadB σ3
     ·refine At.callD 2 rfl (fun w hw hr => fence_d _ _ σ3 w (by omega) hdc hr) Tryz.call89 rfl rfl (fun y10 => ?_)
      simp only [sc0, scS]
      refine tA rfl rfl (tE (At.retC (At.ret1 (.inl rfl) rfl rfl rfl (fun w hw => ?_))))
      have ea : actsE σ (wrA W) = actsE σ1 (wrB W) := by unfold wrA; rw [actsE_go (by rw [← he1]; assumption), ← hσ1]
      have eb : actsE σ1 (wrB W) = actsE (storeD σ1 65 x) (flA 8 (cntL 512 (64 + 8 * W.length)) ++ [.fe]) := by unfold wrB; rw [← hx, actsE_live hdb]; rfl
      have ec : actsE (storeD σ1 65 x) (flA 8 (cntL 512 (64 + 8 * W.length)) ++ [.fe]) = actsE σ3 [.fe] := by rw [actsE_go (by rw [← he3]; assumption), ← hσ3]
      rw [ea, eb, ec, actsE_live hdc]
      exact ⟨_, rfl, hw.drop (List.singleton_sublist.2 (List.mem_of_getElem? (i := 2) rfl))⟩
     ·refine At.callK 2 rfl (fun w hw hr => fence_0 _ _ _ w hdc hr) Tryz.call89 rfl rfl (tA rfl rfl (tE (At.retC (At.ret1 (.inl rfl) rfl rfl rfl (fun w hw => ?_)))))
      have ea : actsE σ (wrA W) = actsE σ1 (wrB W) := by unfold wrA; rw [actsE_go (by rw [← he1]; assumption), ← hσ1]
      have eb : actsE σ1 (wrB W) = actsE (storeD σ1 65 x) (flA 8 (cntL 512 (64 + 8 * W.length)) ++ [.fe]) := by unfold wrB; rw [← hx, actsE_live hdb]; rfl
      have ec : actsE (storeD σ1 65 x) (flA 8 (cntL 512 (64 + 8 * W.length)) ++ [.fe]) = actsE σ3 [.fe] := by rw [actsE_go (by rw [← he3]; assumption), ← hσ3]
      rw [ea, eb, ec, actsE_dead hdc]
      exact ⟨_, rfl, hw.drop (List.singleton_sublist.2 (List.mem_of_getElem? (i := 2) rfl))⟩
   ·refine At.callK 2 rfl (fun w hw hr => store_0 _ _ σ1 _ _ w (place_at (k := 65) (by omega)) hdb hr) Tryz.call87 rfl rfl (tA rfl rfl (tE (tR (tM rfl rfl (tV (Val.bin rfl rfl rfl) rfl (tE (At.condT rfl (tR (tM rfl rfl (tA rfl rfl (tE (At.retC (At.thenR (At.ret1 (.inl rfl) rfl rfl rfl (fun w hw => ?_)))))))))))))))
    have ea : actsE σ (wrA W) = actsE σ1 (wrB W) := by unfold wrA; rw [actsE_go (by rw [← he1]; assumption), ← hσ1]
    have eb : actsE σ1 (wrB W) = (13, σ1) := by unfold wrB; rw [actsE_dead hdb]
    rw [ea, eb]
    exact ⟨_, rfl, hw.drop (List.singleton_sublist.2 (List.mem_of_getElem? (i := 2) rfl))⟩
end Go.Proofs.YtfchinibjhcejaaGreatDoor
namespace Go.Proofs.YtfchinibjhcejaaGreatDoor
open Go Go.Wk
theorem At.callYs {P : Program} {Γ : Ctx} {E : Env} {H : List Res} {ops : Array Oper} {Q : Exit → Act → World → Prop} {rest : List Oper} {d : Nat} {ty : TypeId} {pos : String} {after : Array Edge} {β : Type} {Hs : β → List Res} {v : β → Value} {f : FuncId} {l : List Operand} {vs : List Value} {at_ : Array TypeId}
    (h : ∀ w, Rep Γ.w0 Γ.S H w → Calls P f vs.toArray w fun e w' => ∃ y : β, e = .returned (v y) ∧ Rep w (feet []) (Hs y) w') (hc : ∀ args w, (callFunc f args).run P w = .ok (.enter f args) w) (hv : evs E l = some vs) (hn : Nat.blt d Γ.n = true)
    (c : ∀ y, At Γ ((d, v y) :: E) (Hs y ++ H) (wpList P ops Q rest)) :
    At Γ E H (wpList P ops Q ({ dst := some d, op := .call { callee := .value (.func f), args := l.toArray, argTypes := at_ }, type := ty, pos, after, guard := none } :: rest)) :=
  At.call hc hv hn fun w hw => (h w hw).mono fun e w' ⟨y, he, hr⟩ => ⟨v y, _, he, Rep.frame (H0 := []) (F := H) (H0' := Hs y) hw hr, c y⟩
theorem At.callVD {P : Program} {Γ : Ctx} {E : Env} {H : List Res} {ops : Array Oper} {Q : Exit → Act → World → Prop} {rest : List Oper} {d : Nat} {ty : TypeId} {pos : String} {after : Array Edge} (i : Nat) {p : Nat} {γ : Gh} {σ σ' : Ds} {v : Value} {f : FuncId} {caps : List Value} {fx : Operand} {l : List Operand} {vs : List Value} {at_ : Array TypeId} (hi : H[i]? = some (Dev p γ σ)) (hf : ev E fx = some (.func (.func f) #[] caps.toArray)) (h : ∀ w, Rep Γ.w0 Γ.S H w → DevU P f (vs ++ caps) p γ σ v σ' w)
    (hc : ∀ args w, (callFunc f args).run P w = .ok (.enter f args) w) (hv : evs E l = some vs) (hn : Nat.blt d Γ.n = true)
    (c : ∀ γ', At Γ ((d, v) :: E) (H.set i (Dev p γ' σ')) (wpList P ops Q rest)) :
    At Γ E H (wpList P ops Q ({ dst := some d, op := .call { callee := .value fx, args := l.toArray, argTypes := at_ }, type := ty, pos, after, guard := none } :: rest)) := fun a w ha hw => by
  refine wpList_plain rfl fun K hK => ?_
  unfold Oper.wp
  rw [run_callV ha hf hc hv w]
  simp only [Oper.upon]
  refine (h w hw).mono fun e w' ⟨γ', he, hr⟩ => ?_
  subst he
  exact hK _ _ (c γ' _ _ (ha.put d v hn) (Rep.frame1 (X := []) hi hw hr))
theorem At.idxVO {P : Program} {Γ : Ctx} {E : Env} {H : List Res} {ops : Array Oper} {Q : Exit → Act → World → Prop} {rest : List Oper} {d : Nat} {ty : TypeId} {pos : String} {after : Array Edge} {x y : Operand} {v : Value} {t el j : Nat} {xs : List Value} {k : IntKind} {z : Value} {g : Option (Nat × Bool)} (h : Rd Γ.w0 v 1 xs.length xs) (ho : Off v xs Γ.S) (hu : P.underlying t = some (.slice el)) (hs : ∀ w, (sizeOf el).run P w = .ok 1 w) (hx : ev E x = some v) (hy : ev E y = some (.int k (j : Int))) (hz : xs[j]? = some z)
    (hg : g = none) (hn : Nat.blt d Γ.n = true)
    (c : ∀ b o, Γ.w0.cell? ⟨b, o, none⟩ = some z → ¬ Γ.S b → At Γ ((d, .pointer (some ⟨b, o, none⟩)) :: E) H (wpList P ops Q rest)) :
    At Γ E H (wpList P ops Q ({ dst := some d, op := .indexAddr t x y, type := ty, pos, after, guard := g } :: rest)) := by
  have hj := (List.getElem?_eq_some_iff.1 hz).1
  obtain ⟨b, o, cap, rfl, hc⟩ := h.at (j := j) hj
  exact At.val (Val.indexSl _ rfl hu hs hx hy (by omega) (by omega)) hg rfl hn (c b _ (by have := hc 0 z (by rw [Nat.mul_one, Nat.add_zero]; exact hz); rwa [Nat.add_zero] at this) (ho (fun e => by rw [e] at hz; cases hz) b _ _ _ _ rfl))
theorem Rep.still {w0 : World} {S : Nat → Prop} {H : List Res} {w : World} {b o : Nat} {u : Value} (hw : Rep w0 S H w) (hc : w0.cell? ⟨b, o, none⟩ = some u) (hS : ¬ S b) {i : Nat} {r : Res} (hi : H[i]? = some r) : w.cell? ⟨b, o, none⟩ = some u ∧ ¬ feet [r] b :=
  ⟨hw.oldCell hc hS, fun ⟨q, hq, hb⟩ => by
    rw [List.mem_singleton.1 hq] at hb
    rcases hw.mine r (List.mem_of_getElem? hi) b hb with h | h
    · have h9 : b < w0.heap.size := block_lt_of_cell hc
      omega
    · exact hS h⟩
abbrev PhF : Type := FuncId × List Value
def phV (f : PhF) : Value := .func (.func f.1) #[] f.2.toArray
theorem bld_ph (f : PhF) (w : World) : (Instr.build 102 #[(0, phV f)]).run Tryz.prog w = .ok (.agg #[phV f]) w := by kernel_rfl
theorem bs_ph4 (a b c d : PhF) (w : World) : (Instr.buildSlice 108 4 #[(0, .agg #[phV a]), (1, .agg #[phV b]), (2, .agg #[phV c]), (3, .agg #[phV d])]).run Tryz.prog w = .ok (.slice (some ⟨w.heap.size, 0, none⟩) 4 4) (w.alloc (.cells [phV a, phV b, phV c, phV d].toArray 102)) := by kernel_rfl
theorem bs_ph2 (a b : PhF) (w : World) : (Instr.buildSlice 108 2 #[(0, .agg #[phV a]), (1, .agg #[phV b])]).run Tryz.prog w = .ok (.slice (some ⟨w.heap.size, 0, none⟩) 2 2) (w.alloc (.cells [phV a, phV b].toArray 102)) := by kernel_rfl
theorem Val.makeFunc3 {P : Program} {Γ : Ctx} {E : Env} {H : List Res} {ty : TypeId} {pos : String} {after : Array Edge} {dst : Option Nat} {gd : Option (Nat × Bool)} {fn : FuncId} {x y z : Operand} {v u t : Value} (hx : ev E x = some v) (hy : ev E y = some u) (hz : ev E z = some t) : Val P Γ E H ⟨dst, .makeFunc (.func fn) #[] #[x, y, z], ty, pos, after, gd⟩ (.func (.func fn) #[] #[v, u, t]) := fun a w ha _ => by
  simp [execOp, Instr.makeFunc, ha.eval hx, ha.eval hy, ha.eval hz]
theorem picks_some {H : List Res} : ∀ {js : List Nat} {L : List Res}, js.mapM (fun (j : Nat) => H[j]?) = some L → L.length = js.length ∧ ∀ (k j : Nat), js[k]? = some j → L[k]? = H[j]?
  | [], L, h => by
    obtain rfl : [] = L := Option.some.inj h
    exact ⟨rfl, fun k j hk => by cases hk⟩
  | j :: js, L, h => by
    rw [List.mapM_cons] at h
    cases h1 : H[j]? with
    | none => rw [h1] at h; cases h
    | some r =>
      rw [h1] at h
      cases h2 : js.mapM (fun (j : Nat) => H[j]?) with
      | none => simp [h2] at h
      | some L' =>
        simp only [h2, Option.bind_eq_bind, Option.bind_some, Option.pure_def, Option.some.injEq] at h
        subst h
        obtain ⟨g1, g2⟩ := picks_some h2
        refine ⟨by rw [List.length_cons, List.length_cons, g1], fun k j' hk => ?_⟩
        match k, hk with
        | 0, hk => obtain rfl := Option.some.inj hk; exact h1.symm
        | k + 1, hk => exact g2 k j' hk
theorem Rep.pick {w0 : World} {S : Nat → Prop} {H L : List Res} {w : World} (hw : Rep w0 S H w) (js : List Nat) (hd : js.Nodup) (h : js.mapM (fun (j : Nat) => H[j]?) = some L) : Rep w0 S L w := by
  obtain ⟨g1, g2⟩ := picks_some h
  have at_ : ∀ (k : Nat) (hk : k < L.length), ∃ j : Nat, js[k]? = some j ∧ H[j]? = some L[k] := fun k hk => by
    have hj : js[k]? = some (js[k]'(by omega)) := List.getElem?_eq_getElem _
    exact ⟨_, hj, by rw [← g2 k _ hj, List.getElem?_eq_getElem hk]⟩
  refine ⟨List.pairwise_iff_getElem.2 fun a b ha hb hab => ?_, fun r hr => ?_, fun r hr => ?_, hw.mod⟩
  · obtain ⟨i, h1, h2⟩ := at_ a ha
    obtain ⟨j, h3, h4⟩ := at_ b hb
    have hne : i ≠ j := fun e => by
      subst e
      have e1 := List.getElem?_eq_some_iff.1 h1
      have e2 := List.getElem?_eq_some_iff.1 h3
      have := List.pairwise_iff_getElem.1 hd a b e1.1 e2.1 hab
      exact this (e1.2.trans e2.2.symm)
    have e1 := List.getElem?_eq_some_iff.1 h2
    have e2 := List.getElem?_eq_some_iff.1 h4
    rcases Nat.lt_or_gt_of_ne hne with hlt | hgt
    · have := List.pairwise_iff_getElem.1 hw.sep i j e1.1 e2.1 hlt
      rwa [e1.2, e2.2] at this
    · have := List.pairwise_iff_getElem.1 hw.sep j i e2.1 e1.1 hgt
      rw [e1.2, e2.2] at this
      exact fun x hx hx' => this x hx' hx
  · obtain ⟨k, hk⟩ := List.getElem?_of_mem hr
    obtain ⟨j, _, h2⟩ := at_ k (List.getElem?_eq_some_iff.1 hk).1
    rw [(List.getElem?_eq_some_iff.1 hk).2] at h2
    exact hw.all r (List.mem_of_getElem? h2)
  · obtain ⟨k, hk⟩ := List.getElem?_of_mem hr
    obtain ⟨j, _, h2⟩ := at_ k (List.getElem?_eq_some_iff.1 hk).1
    rw [(List.getElem?_eq_some_iff.1 hk).2] at h2
    exact hw.mine r (List.mem_of_getElem? h2)
theorem storeP_n (p : Nat) (a : Int) (x : BitVec 64) (w : World) :
    Calls Tryz.prog 50 (List.toArray [.pointer (some ⟨p, 0, none⟩), .int .i64 a, b64 x]) w fun e w' => ∃ y : Nat × Nat × Nat, e = .returned (.agg #[phV (90, [.pointer (some ⟨y.1, 0, none⟩), .pointer (some ⟨y.2.1, 0, none⟩), .pointer (some ⟨y.2.2, 0, none⟩)])]) ∧ Rep w (feet []) [blk y.1 51 [.pointer (some ⟨p, 0, none⟩)], blk y.2.1 3 [.int .i64 a], blk y.2.2 43 [b64 x]] w' := by
 refine enter (feet []) [] Tryz.func50 rfl Tryz.ntmps50 rfl ⟨by simp, by simp, by simp, Mod.refl _ _⟩ ?_
 simp only [envOf]
 refine tR (At.box rfl rfl rfl (fun b1 => (At.box rfl rfl rfl (fun b2 => (At.box rfl rfl rfl (fun b3 => (At.alloc Tryz.zeroValue102 rfl rfl (fun b4 => (tE (tR (tV (Val.makeFunc3 rfl rfl rfl ) rfl ?_)))))))))))
 refine tV (Val.build (fun a ha => by simp only [List.map_toArray, List.map_cons, List.map_nil, ha.eval (x := (.tmp 7)) rfl] <;> rfl) (bld_ph (_, _))) rfl (At.storeAll (i := 0) Tryz.sizeOf102 rfl rfl rfl (by simp [Value.oneCell', phV]) rfl rfl ?_)
 simp only [sc0, scS]
 refine tE (At.retC (At.ret1 (.inl rfl) rfl rfl (ResOf.all (i := 0) Tryz.isAgg102 Tryz.sizeOf102 rfl rfl rfl) (fun w hw => ?_)))
 exact ⟨(b1, b2, b3), rfl, Rep.pick hw [3, 2, 1] (by decide) rfl⟩
theorem changeP_n (p : Nat) (vA vV : Value) (hA : vA.cells = #[vA]) (hV : vV.cells = #[vV]) (w : World) :
    Calls Tryz.prog 52 (List.toArray [.pointer (some ⟨p, 0, none⟩), vA, vV]) w fun e w' => ∃ y : Nat × Nat × Nat, e = .returned (.agg #[phV (93, [.pointer (some ⟨y.2.1, 0, none⟩), .pointer (some ⟨y.1, 0, none⟩), .pointer (some ⟨y.2.2, 0, none⟩)])]) ∧ Rep w (feet []) [blk y.1 51 [.pointer (some ⟨p, 0, none⟩)], blk y.2.1 63 [vA], blk y.2.2 98 [vV]] w' := by
 refine enter (feet []) [] Tryz.func52 rfl Tryz.ntmps52 rfl ⟨by simp, by simp, by simp, Mod.refl _ _⟩ ?_
 simp only [envOf]
 refine tR (At.box rfl rfl rfl (fun b1 => (At.box rfl hA rfl (fun bA => (At.box rfl hV rfl (fun bV => (At.alloc Tryz.zeroValue102 rfl rfl (fun b2 => (tE (tR (tV (Val.makeFunc3 rfl rfl rfl ) rfl ?_)))))))))))
 refine tV (Val.build (fun a ha => by simp only [List.map_toArray, List.map_cons, List.map_nil, ha.eval (x := (.tmp 7)) rfl] <;> rfl) (bld_ph (_, _))) rfl (At.storeAll (i := 0) Tryz.sizeOf102 rfl rfl rfl (by simp [Value.oneCell', phV]) rfl rfl ?_)
 simp only [sc0, scS]
 refine tE (At.retC (At.ret1 (.inl rfl) rfl rfl (ResOf.all (i := 0) Tryz.isAgg102 Tryz.sizeOf102 rfl rfl rfl) (fun w hw => ?_)))
 exact ⟨(b1, bA, bV), rfl, Rep.pick hw [3, 2, 1] (by decide) rfl⟩
theorem writeP_n (p : Nat) (vA : Value) (hA : vA.cells = #[vA]) (w : World) :
    Calls Tryz.prog 49 (List.toArray [.pointer (some ⟨p, 0, none⟩), vA]) w fun e w' => ∃ y : Nat × Nat, e = .returned (.agg #[phV (84, [.pointer (some ⟨y.2, 0, none⟩), .pointer (some ⟨y.1, 0, none⟩)])]) ∧ Rep w (feet []) [blk y.1 51 [.pointer (some ⟨p, 0, none⟩)], blk y.2 63 [vA]] w' := by
 refine enter (feet []) [] Tryz.func49 rfl Tryz.ntmps49 rfl ⟨by simp, by simp, by simp, Mod.refl _ _⟩ ?_
 simp only [envOf]
 refine tR (At.box rfl rfl rfl (fun b1 => (At.box rfl hA rfl (fun bA => (At.alloc Tryz.zeroValue102 rfl rfl (fun b2 => (tE (tR (tV (Val.makeFunc2 rfl rfl ) rfl ?_)))))))))
 refine tV (Val.build (fun a ha => by simp only [List.map_toArray, List.map_cons, List.map_nil, ha.eval (x := (.tmp 5)) rfl] <;> rfl) (bld_ph (_, _))) rfl (At.storeAll (i := 0) Tryz.sizeOf102 rfl rfl rfl (by simp [Value.oneCell', phV]) rfl rfl ?_)
 simp only [sc0, scS]
 refine tE (At.retC (At.ret1 (.inl rfl) rfl rfl (ResOf.all (i := 0) Tryz.isAgg102 Tryz.sizeOf102 rfl rfl rfl) (fun w hw => ?_)))
 exact ⟨(b1, bA), rfl, Rep.pick hw [2, 1] (by decide) rfl⟩
end Go.Proofs.YtfchinibjhcejaaGreatDoor
namespace Go.Proofs.YtfchinibjhcejaaGreatDoor
open Go Go.Wk
theorem flat_at {As : List (List Ac)} {j : Nat} {A : List Ac} (h : As[j]? = some A) : (As.drop j).flatten = A ++ (As.drop (j + 1)).flatten := by
  have hj := List.getElem?_eq_some_iff.1 h
  rw [List.drop_eq_getElem_cons hj.1, hj.2]; rfl
theorem flat_take {As : List (List Ac)} {j : Nat} {A : List Ac} (h : As[j]? = some A) : (As.take (j + 1)).flatten.length = (As.take j).flatten.length + A.length := by
  rw [List.take_succ_of_get h, List.flatten_append, List.length_append]; simp
theorem flat_snoc {As : List (List Ac)} {j : Nat} {A : List Ac} (h : As[j]? = some A) : (As.take (j + 1)).flatten = (As.take j).flatten ++ A := by
  rw [List.take_succ_of_get h, List.flatten_append]; simp
theorem flat_le (As : List (List Ac)) (j : Nat) : (As.take j).flatten.length ≤ As.flatten.length := by
  have h := congrArg List.flatten (List.take_append_drop j As)
  rw [List.flatten_append] at h
  rw [← h, List.length_append]; omega
theorem run_d (p : Nat) (γ : Gh) (σ : Ds) (v : Value) (fs : List PhF) (As : List (List Ac)) (w : World) (hv : Rd w v 1 fs.length (fs.map phV)) (ho : Off v (fs.map phV) (feet [Dev p γ σ])) (hlen : As.length = fs.length) (hfs : fs.length ≤ 100) (hok : ∀ A ∈ As, ∀ a ∈ A, AcOk σ.ws.length a) (hcf : ∀ f ∈ fs, ∀ args w, (callFunc f.1 args).run Tryz.prog w = .ok (.enter f.1 args) w) (hph : ∀ (j : Nat) (f : PhF) (A : List Ac) (γ1 : Gh) (σ1 : Ds) (w1 : World), fs[j]? = some f → As[j]? = some A → σ1.ws.length = σ.ws.length → σ1.steps ≤ σ.steps + As.flatten.length → actsE σ (As.take j).flatten = (0, σ1) → Rep w (feet [Dev p γ σ]) [Dev p γ1 σ1] w1 → DevU Tryz.prog f.1 f.2 p γ1 σ1 (.int .i64 (actsE σ1 A).1) (actsE σ1 A).2 w1) (hd : (Dev p γ σ).holds w) :
    DevU Tryz.prog 48 [v] p γ σ (.int .i64 (actsE σ As.flatten).1) (actsE σ As.flatten).2 w := by
 refine enterVc hd Tryz.func48 rfl Tryz.ntmps48 rfl ?_
 have hgd := Dev.good hd
 simp only [envOf]
 refine tR (tA rfl rfl (tE (At.seq (tR (tM rfl rfl (tV (Val.lenRd hv Tryz.underlying108 rfl) rfl (tM rfl rfl (tE (At.block ?_)))))))))
 skip
 refine At.loop (σ := Nat × Ds × Gh) (fun s => s.1 ≤ fs.length ∧ actsE σ As.flatten = actsE s.2.1 (As.drop s.1).flatten ∧ s.2.1.ws.length = σ.ws.length ∧ s.2.1.steps ≤ σ.steps + (As.take s.1).flatten.length ∧ actsE σ (As.take s.1).flatten = (0, s.2.1)) (fun s => [(6, v), (7, .int .i64 (fs.length : Int)), (8, .int .i64 (s.1 : Int))]) (fun s => [Dev p s.2.2 s.2.1]) (fun s => fs.length - s.1) (0, σ, γ) ⟨Nat.zero_le _, rfl, rfl, by simp, rfl⟩ (Sub.cons rfl (Sub.cons rfl (Sub.cons rfl Sub.nil))) (List.Perm.refl _) ?_
 intro s hs
 obtain ⟨j, σ1, γ1⟩ := s
 dsimp only at hs ⊢
 obtain ⟨hj, hae, hl1, hs1, hpre⟩ := hs
 refine tR (tV (Val.bin rfl rfl rfl) rfl (tE (At.seq ?_)))
 refine At.cond rfl (fun h1 => ?_) (fun h1 => ?_)
 ·try simp only [hasB, isSizeB, sB] at h1
  refine At.skipC (At.thenN (At.seq (At.block (tR ?_))))
  obtain ⟨f, hf⟩ : ∃ f, fs[j]? = some f := ⟨_, List.getElem?_eq_getElem (by omega)⟩
  obtain ⟨A, hA⟩ : ∃ A, As[j]? = some A := ⟨_, List.getElem?_eq_getElem (by omega)⟩
  have hfl := flat_le As j
  refine At.idxVO (by rw [List.length_map]; exact hv) ho Tryz.underlying108 Tryz.sizeOf102 rfl rfl (show (fs.map phV)[j]? = some (phV f) by rw [List.getElem?_map, hf]; rfl) rfl rfl (fun bo oo hcc hox => ?_)
  refine tV (Val.loadOldPart (vs := [phV f]) Tryz.isAgg102 Tryz.sizeOf102 rfl rfl (fun m u hm => by match m, hm with | 0, hm => (obtain rfl := Option.some.inj hm; rw [Nat.add_zero]; exact hcc)) hox) rfl (At.alloc Tryz.zeroValue102 rfl rfl (fun b2 => (At.storeAll (i := 0) Tryz.sizeOf102 rfl rfl rfl (by simp [Value.oneCell', phV]) rfl rfl ?_)))
  simp only [sc0, scS]
  refine tE (tR (tV (Val.field 0 rfl fo_102_0 rfl) rfl (tV (Val.load (i := 0) Tryz.isAgg100 rfl rfl rfl) rfl ?_)))
  obtain ⟨σ2, hσ2⟩ : ∃ s, s = (actsE σ1 A).2 := ⟨_, rfl⟩
  obtain ⟨e2, he2⟩ : ∃ e, e = (actsE σ1 A).1 := ⟨_, rfl⟩
  obtain ⟨b1, b2, b3, _⟩ := actsE_rest A σ1 (by rw [hl1]; exact hok A (List.mem_of_getElem? hA))
  rw [← hσ2] at b1 b2 b3
  refine At.callVD 1 (f := f.1) (caps := f.2) rfl rfl (fun w hw => (by have h0 := hph j f A _ σ1 w hf hA hl1 (by omega) hpre (hw.drop (List.singleton_sublist.2 (List.mem_of_getElem? (i := 1) rfl))); rw [← hσ2, ← he2] at h0; exact h0)) (hcf f (List.mem_of_getElem? hf)) rfl rfl (fun γ2 => ?_)
  simp only [sc0, scS]
  refine tA rfl rfl (tE (tR (tM rfl rfl (tV (Val.bin rfl rfl rfl) rfl (tE ?_)))))
  refine At.cond rfl (fun h3 => ?_) (fun h3 => ?_)
  ·try simp only [hasB, isSizeB, sB] at h3
   refine tR (tM rfl rfl (tA rfl rfl (tE (At.retC (At.blkR (At.thenR (At.thenR (At.blkR (At.thenR (At.ret1 (.inl rfl) rfl rfl rfl (fun w hw => ?_)))))))))))
   have ea : actsE σ As.flatten = (e2, σ2) := by rw [hae, flat_at hA, actsE_stop (by have := actsE_01 A σ1; rw [← he2] at this ⊢; omega), he2, hσ2]
   rw [ea]
   exact ⟨_, rfl, hw.drop (List.singleton_sublist.2 (List.mem_of_getElem? (i := 1) rfl))⟩
  ·try simp only [hasB, isSizeB, sB] at h3
   refine At.skipC (At.blkN (At.thenN (At.region ?_)))
   first | refine tV (Val.addI rfl rfl (by omega) (by omega)) rfl ?_ | refine tV (Val.bin rfl rfl rfl) rfl ?_
   refine tM rfl rfl (tE (At.drop 0 ?_))
   simp only [ec0, ecS]
   exact At.again (j + 1, σ2, γ2) ⟨(show j + 1 ≤ _ by omega), by dsimp only; rw [hae, flat_at hA, actsE_go (by rw [← he2]; assumption), ← hσ2], b1.trans hl1, by dsimp only; rw [flat_take hA]; omega, by dsimp only; rw [flat_snoc hA, actsE_go (by rw [hpre]), hpre]; exact Prod.ext (by rw [← he2]; assumption) hσ2.symm⟩ (by dsimp only; omega) (Sub.cons rfl (Sub.cons rfl (Sub.cons (congrArg (fun z => some (Value.int IntKind.i64 z)) (by dsimp only; omega)) Sub.nil))) (List.Perm.refl _)
 ·try simp only [hasB, isSizeB, sB] at h1
  refine At.exitC (At.thenX (At.thenX (At.blkX (At.thenN (tR (tA rfl rfl (tE (At.retC (At.ret1 (.inl rfl) rfl rfl rfl (fun w hw => ?_))))))))))
  rw [List.drop_of_length_le (by omega)] at hae
  rw [show actsE σ As.flatten = (0, σ1) from hae]
  exact ⟨_, rfl, hw.drop (List.singleton_sublist.2 (List.mem_of_getElem? (i := 0) rfl))⟩
end Go.Proofs.YtfchinibjhcejaaGreatDoor
namespace Go.Proofs.YtfchinibjhcejaaGreatDoor
open Go Go.Wk
def page (l : List UInt8) : List UInt8 := (l.drop 512).take (1024 - 512)
def supK (l : List UInt8) : Option Nat := if 128 ≤ l.length ∧ HasSup l 0 then some 0 else if 128 ≤ l.length ∧ HasSup l 1 then some 1 else none
def supI (l : List UInt8) (k : Nat) : Int := ((num (lineAt l k) 12 4 : Nat) : Int)
def supP (l : List UInt8) (k : Nat) : Int := ((num (lineAt l k) 8 4 : Nat) : Int)
def supC (l : List UInt8) (k : Nat) : Int := ((num (lineAt l k) 16 4 : Nat) : Int)
theorem find_spec (l : List UInt8) : (∃ k, supK l = some k ∧ GoodSup (supP l k) (supI l k) (supC l k) ∧ supP l k * 512 = l.length ∧ findV l = .tuple #[.agg #[.int .i64 (supP l k), .int .i64 (supI l k), .int .i64 (supC l k), .int .i64 (4 + supI l k / 8)], .int .i64 0]) ∨
    (supK l = none ∧ findV l = .tuple #[.agg #[.int .i64 0, .int .i64 0, .int .i64 0, .int .i64 0], .int .i64 31]) := by
  unfold supK findV
  by_cases h0 : 128 ≤ l.length ∧ HasSup l 0
  · rw [if_pos h0, if_pos h0]
    refine .inl ⟨0, rfl, h0.2.1.1, ?_, fit_yes h0.2.1.1⟩
    have := h0.2.2
    show ((num (lineAt l 0) 8 4 : Nat) : Int) * 512 = _
    omega
  · rw [if_neg h0, if_neg h0]
    by_cases h1 : 128 ≤ l.length ∧ HasSup l 1
    · rw [if_pos h1, if_pos h1]
      refine .inl ⟨1, rfl, h1.2.1.1, ?_, fit_yes h1.2.1.1⟩
      have := h1.2.2
      show ((num (lineAt l 1) 8 4 : Nat) : Int) * 512 = _
      omega
    · rw [if_neg h1, if_neg h1]
      exact .inr ⟨rfl, rfl⟩
noncomputable def pndE (l : List UInt8) : Int := match supK l with | none => 31 | some k => if openUnE (page l) ≠ 0 then 35 else if ∀ u ∈ openUnL (page l), TW u.1 (supI l k) then 0 else 35
noncomputable def pndL (l : List UInt8) : List (Int × BitVec 64) := if pndE l = 0 then openUnL (page l) else []
theorem pnd_31 {l : List UInt8} (h : supK l = none) : pndE l = 31 ∧ pndL l = [] := by
  have e : pndE l = 31 := by unfold pndE; rw [h]
  exact ⟨e, by unfold pndL; rw [e, if_neg (by decide)]⟩
theorem pnd_35a {l : List UInt8} {k : Nat} (h : supK l = some k) (h1 : openUnE (page l) ≠ 0) : pndE l = 35 ∧ pndL l = [] := by
  have e : pndE l = 35 := by unfold pndE; rw [h]; exact if_pos h1
  exact ⟨e, by unfold pndL; rw [e, if_neg (by decide)]⟩
theorem pnd_35b {l : List UInt8} {k : Nat} {q : Int × BitVec 64} (h : supK l = some k) (h1 : openUnE (page l) = 0) (hq : q ∈ openUnL (page l)) (h2 : ¬ TW q.1 (supI l k)) : pndE l = 35 ∧ pndL l = [] := by
  have e : pndE l = 35 := by unfold pndE; rw [h]; simp only; rw [if_neg (fun g => g h1), if_neg (fun g => h2 (g q hq))]
  exact ⟨e, by unfold pndL; rw [e, if_neg (by decide)]⟩
theorem pnd_0 {l : List UInt8} {k : Nat} (h : supK l = some k) (h1 : openUnE (page l) = 0) (h2 : ∀ u ∈ openUnL (page l), TW u.1 (supI l k)) : pndE l = 0 ∧ pndL l = openUnL (page l) := by
  have e : pndE l = 0 := by unfold pndE; rw [h]; simp only; rw [if_neg (fun g => g h1), if_pos h2]
  exact ⟨e, by unfold pndL; rw [e, if_pos rfl]⟩
theorem tw_step {U : List (Int × BitVec 64)} {i : Int} {k : Nat} {q : Int × BitVec 64} (h : ∀ j q, j < k → U[j]? = some q → TW q.1 i) (hq : U[k]? = some q) (ht : TW q.1 i) : ∀ j q, j < k + 1 → U[j]? = some q → TW q.1 i := fun j r hj hr => by
  rcases Nat.lt_or_ge j k with g | g
  · exact h j r g hr
  · obtain rfl : k = j := by omega
    obtain rfl := Option.some.inj (hq.symm.trans hr)
    exact ht
theorem openUn_bd {l : List UInt8} {q : Int × BitVec 64} (h : q ∈ openUnL l) : SlotWd q.1 := by
  unfold openUnL at h
  by_cases hk : OkUn l
  · rw [if_pos hk] at h
    rcases hk.2.2 with h0 | ⟨_, _, hg⟩
    · rw [h0] at h; simp [recs] at h
    · obtain ⟨j, hj⟩ := List.getElem?_of_mem h
      exact (hg.2.2 j (List.getElem?_eq_some_iff.1 hj).1 q hj).1
  · rw [if_neg hk] at h; cases h
theorem openUn_len (l : List UInt8) : (openUnL l).length ≤ 8 := by
  unfold openUnL
  split
  · rename_i hk
    rcases hk.2.2 with h0 | ⟨h8, _, _⟩
    · rw [h0]; simp [recs]
    · simp [recs]; exact h8
  · simp
theorem page_length {l : List UInt8} (h : 1024 ≤ l.length) : (page l).length = 512 := by unfold page; rw [List.length_take, List.length_drop]; omega
theorem isEmpty_k (p : Nat) (γ : Gh) (σ : Ds) (w : World) (ht : Tab w) (hf : ¬ feet [Dev p γ σ] 0) (hN : 128 ≤ σ.ws.length) (hd : (Dev p γ σ).holds w) :
    Upd Tryz.prog 47 [.pointer (some ⟨p, 0, none⟩)] (Dev p γ σ) (.bool (decide (openUnE (page (wbytes (viewWs σ.ws))) = 0 ∧ openUnL (page (wbytes (viewWs σ.ws))) = []))) (Dev p γ σ) w := by
 refine enterVc hd Tryz.func47 rfl Tryz.ntmps47 rfl ?_
 have hgd := Dev.good hd
 have hln := hgd.len
 have hXl : (wbytes (viewWs σ.ws)).length = 8 * σ.ws.length := by rw [wbytes_length, viewWs, List.length_map]
 simp only [envOf]
 refine tR (tA rfl rfl (tE (tR (tM rfl rfl (At.callRKT 0 rfl (fun w hw hr => read_s _ _ σ 512 512 w (by omega) hr) Tryz.call83 rfl rfl (fun v1 => ?_))))))
 change At _ _ (rowR v1 5 1 (page (wbytes (viewWs σ.ws))).length ((page (wbytes (viewWs σ.ws))).map bv) :: _) _
 refine tM rfl rfl (tV (Val.extract rfl rfl) rfl (tV (Val.extract rfl rfl) rfl (tA rfl rfl (tA rfl rfl (tE (At.seq (tR (tM rfl rfl (tV (Val.bin rfl rfl rfl) rfl (tE (At.condF rfl (At.skipC (At.thenN (tR (tM rfl rfl ?_)))))))))))))))
 refine At.callNT (g := (fun v => .tuple #[v, .int .i64 (openUnE (page (wbytes (viewWs σ.ws))))])) (fun w hw => openUn_n _ _ w (ht.modS hw.mod hf) (row_rd (hw.row (i := 0) rfl) (by decide)) (by first | omega | (rw [page_length (by omega)]; omega))) Tryz.call38 rfl rfl (fun v2 => (tM rfl rfl (tV (Val.extract rfl rfl) rfl (tV (Val.extract rfl rfl) rfl (tA rfl rfl (tA rfl rfl (tE (tR (At.weaken [(0, _), (2, _), (7, _), (8, _), (6, _), (9, _), (10, _), (3, _), (4, _), (11, _), (12, _), (14, _), (15, _), (13, _), (16, _), (17, _), (5, _)] (Sub.cons rfl (Sub.cons rfl (Sub.cons rfl (Sub.cons rfl (Sub.cons rfl (Sub.cons rfl (Sub.cons rfl (Sub.cons rfl (Sub.cons rfl (Sub.cons rfl (Sub.cons rfl (Sub.cons rfl (Sub.cons rfl (Sub.cons rfl (Sub.cons rfl (Sub.cons rfl (Sub.cons rfl Sub.nil))))))))))))))))) ?_)))))))))
 refine At.boolMeet 7 24 (decide (openUnE (page (wbytes (viewWs σ.ws))) = 0 ∧ openUnL (page (wbytes (viewWs σ.ws))) = [])) ?_ ?_
 ·simp only [List.take_succ_cons, List.take_zero]
  refine tM rfl rfl (tV (Val.bin rfl rfl rfl) rfl (tM rfl rfl ?_))
  refine At.split (t := 20) rfl (fun h3 => ?_) (fun h3 => ?_)
  ·try simp only [hasB, isSizeB, sB] at h3
   refine At.yes rfl rfl (tM rfl rfl (At.yes rfl rfl (tV (Val.lenRow (i := 0) Tryz.underlying25 rfl rfl) rfl (At.yes rfl rfl (tV (Val.bin rfl rfl rfl) rfl (tV (Val.pickT rfl rfl) rfl (At.nil ?_)))))))
   exact At.boolEnd rfl (by apply Bool.eq_iff_iff.2; (simp only [decide_eq_true_eq, Bool.false_eq_true, false_iff, true_iff, beq_iff_eq]) <;> first | exact ⟨fun g => ⟨by assumption, List.eq_nil_of_length_eq_zero (by omega)⟩, fun g => by rw [g.2]; rfl⟩ | exact fun g => absurd g.1 (by assumption)) (by repeat (first | exact Sub.nil | refine Sub.cons rfl ?_))
  ·try simp only [hasB, isSizeB, sB] at h3
   refine At.no rfl rfl rfl rfl (At.no rfl rfl rfl rfl (At.no rfl rfl rfl rfl (tV (Val.pickF rfl rfl) rfl (At.nil ?_))))
   exact At.boolEnd rfl (by apply Bool.eq_iff_iff.2; (simp only [decide_eq_true_eq, Bool.false_eq_true, false_iff, true_iff, beq_iff_eq]) <;> first | exact ⟨fun g => ⟨by assumption, List.eq_nil_of_length_eq_zero (by omega)⟩, fun g => by rw [g.2]; rfl⟩ | exact fun g => absurd g.1 (by assumption)) (by repeat (first | exact Sub.nil | refine Sub.cons rfl ?_))
 ·simp only [List.drop_succ_cons, List.drop_zero]
  refine tA rfl rfl (tE (At.retC (At.ret1 (.inl rfl) rfl rfl rfl (fun w hw => ?_))))
  exact ⟨rfl, hw.drop (List.singleton_sublist.2 (List.mem_of_getElem? (i := 2) rfl))⟩
theorem pending_n (v : Value) (l : List UInt8) (w : World) (ht : Tab w) (hv : RdB w v l) (hlen : l.length ≤ 140737489000000) :
    NewRowT Tryz.prog 15 [v] (fun v => .tuple #[v, .int .i64 (pndE l)]) 45 2 (pndL l).length (prC (pndL l)) w := by
 refine enter0 Tryz.func15 rfl Tryz.ntmps15 rfl ?_
 simp only [envOf]
 refine tR (tA rfl rfl (tA rfl rfl (tE (tR (tM rfl rfl (At.callP (fun w hw => findI_p v l w (ht.mod hw.mod) (hv.mod hw.mod) hlen) Tryz.call37 rfl rfl ?_))))))
 rcases find_spec l with ⟨n, hk, hg, hpl, hfv⟩ | ⟨hk, hfv⟩
 ·rw [hfv]
  have hg2 := hg
  unfold GoodSup at hg2
  refine tM rfl rfl (tV (Val.extract rfl rfl) rfl (tV (Val.extract rfl rfl) rfl (At.alloc Tryz.zeroValue31 rfl rfl (fun b1 => (At.storeAll (i := 0) Tryz.sizeOf31 rfl rfl rfl (by simp [Value.oneCell']) rfl rfl ?_)))))
  simp only [sc0, scS]
  refine tA rfl rfl (tE (At.seq (tR (tM rfl rfl (tV (Val.bin rfl rfl rfl) rfl (tE (At.condF rfl (At.skipC (At.thenN (tR (tM rfl rfl (At.cutB (512) (1024) hv Tryz.underlying29 Tryz.sizeOf5 rfl ⟨_, _, rfl, by omega, by omega⟩ ⟨_, _, rfl, by omega, by omega⟩ (by omega) (by omega) rfl rfl (fun v2 hv3 => ?_)))))))))))))
  refine At.callNT (g := (fun v => .tuple #[v, .int .i64 (openUnE (page l))])) (fun w hw => openUn_n _ _ w (ht.mod hw.mod) (hv3.mod hw.mod) (by first | omega | (rw [page_length (by omega)]; omega))) Tryz.call38 rfl rfl (fun v4 => (tM rfl rfl (tV (Val.extract rfl rfl) rfl (tV (Val.extract rfl rfl) rfl (tA rfl rfl (tA rfl rfl (tE (At.seq (tR (tM rfl rfl (tV (Val.bin rfl rfl rfl) rfl (tE ?_))))))))))))
  refine At.cond rfl (fun h5 => ?_) (fun h5 => ?_)
  ·try simp only [hasB, isSizeB, sB] at h5
   refine At.seq (At.rowNilP 45 (At.region (tA rfl rfl (tA rfl rfl (tE (At.retC (At.thenR (At.ret2 (.inl rfl) rfl rfl rfl rfl (fun w hw => ?_)))))))))
   obtain ⟨x1, x2⟩ := pnd_35a hk (by assumption)
   rw [x1, x2]
   exact ⟨_, rfl, (hw.drop (List.singleton_sublist.2 (List.mem_of_getElem? (i := 0) rfl))).f0⟩
  ·try simp only [hasB, isSizeB, sB] at h5
   refine At.skipC (At.thenN (At.seq (tR (tM rfl rfl (tV (Val.lenRow (i := 0) Tryz.underlying25 rfl rfl) rfl (tM rfl rfl (tE (At.block ?_))))))))
   skip
   refine At.loop (σ := Nat) (fun k => k ≤ (openUnL (page l)).length ∧ ∀ j q, j < k → (openUnL (page l))[j]? = some q → TW q.1 (supI l n)) (fun k => [(2, .slice none 0 0), (3, .int .i64 0), (4, .pointer (some ⟨b1, 0, none⟩)), (6, v4), (24, v4), (25, .int .i64 ((openUnL (page l)).length : Int)), (26, .int .i64 (k : Int))]) (fun k => [rowR v4 45 2 ((openUnL (page l)).length) (prC (openUnL (page l))), blk b1 31 ([.int .i64 (supP l n), .int .i64 (supI l n), .int .i64 (supC l n), .int .i64 (4 + supI l n / 8)])]) (fun k => (openUnL (page l)).length - k) 0 ⟨Nat.zero_le _, fun j q h => absurd h (Nat.not_lt_zero _)⟩ (Sub.cons rfl (Sub.cons rfl (Sub.cons rfl (Sub.cons rfl (Sub.cons rfl (Sub.cons rfl (Sub.cons rfl Sub.nil))))))) (List.Perm.refl _) ?_
   intro k hs
   have hu8 := openUn_len (page l)
   refine tR (tV (Val.bin rfl rfl rfl) rfl (tE (At.seq ?_)))
   refine At.cond rfl (fun h6 => ?_) (fun h6 => ?_)
   ·try simp only [hasB, isSizeB, sB] at h6
    refine At.skipC (At.thenN (At.seq (At.block (tR ?_))))
    obtain ⟨q, hq⟩ : ∃ q, (openUnL (page l))[k]? = some q := ⟨_, List.getElem?_eq_getElem (by omega)⟩
    have hqb := openUn_bd (List.mem_of_getElem? hq)
    unfold SlotWd at hqb
    refine tV (Val.indexRow (i := 0) (k * 2) (by omega) Tryz.underlying25 Tryz.sizeOf45 rfl rfl rfl (by omega) (by omega)) rfl (tV (Val.loadRowPart (i := 0) (vs := [.int .i64 q.1, b64 q.2]) Tryz.isAgg45 Tryz.sizeOf45 rfl rfl rfl (fun m u hm => by match m, hm with | 0, hm => (obtain rfl := Option.some.inj hm; exact (prC_at hq).1) | 1, hm => (obtain rfl := Option.some.inj hm; exact (prC_at hq).2))) rfl (At.alloc Tryz.zeroValue45 rfl rfl (fun b7 => (At.storeAll (i := 0) Tryz.sizeOf45 rfl rfl rfl (by simp [Value.oneCell']) rfl rfl ?_))))
    simp only [sc0, scS]
    refine tE (tR (tV (Val.loadAll (i := 2) Tryz.isAgg31 Tryz.sizeOf31 rfl rfl rfl) rfl (tV (Val.field 0 rfl fo_45_0 rfl) rfl (tV (Val.load (i := 0) Tryz.isAgg3 rfl rfl rfl) rfl (At.callP (fun w hw => isTable_p _ _ _ _ q.1 w (by omega) (by omega)) Tryz.call39 rfl rfl (tV (Val.not rfl) rfl (tE ?_)))))))
    refine At.cond rfl (fun h8 => ?_) (fun h8 => ?_)
    ·try simp only [hasB, isSizeB, sB] at h8
     refine At.seq (At.rowNilP 45 (At.region (tA rfl rfl (tA rfl rfl (tE (At.retC (At.blkR (At.thenR (At.thenR (At.blkR (At.thenR (At.ret2 (.inl rfl) rfl rfl rfl rfl (fun w hw => ?_)))))))))))))
     obtain ⟨x1, x2⟩ := pnd_35b hk (by assumption) (List.mem_of_getElem? hq) (by assumption)
     rw [x1, x2]
     exact ⟨_, rfl, (hw.drop (List.singleton_sublist.2 (List.mem_of_getElem? (i := 0) rfl))).f0⟩
    ·try simp only [hasB, isSizeB, sB] at h8
     refine At.skipC (At.blkN (At.thenN (At.region ?_)))
     first | refine tV (Val.addI rfl rfl (by omega) (by omega)) rfl ?_ | refine tV (Val.bin rfl rfl rfl) rfl ?_
     refine tM rfl rfl (tE (At.drop 0 ?_))
     simp only [ec0, ecS]
     exact At.again (k + 1) ⟨by omega, tw_step hs.2 hq (by assumption)⟩ (by omega) (Sub.cons rfl (Sub.cons rfl (Sub.cons rfl (Sub.cons rfl (Sub.cons rfl (Sub.cons rfl (Sub.cons (congrArg (fun z => some (Value.int IntKind.i64 z)) (by omega)) Sub.nil))))))) (List.Perm.refl _)
   ·try simp only [hasB, isSizeB, sB] at h6
    refine At.exitC (At.thenX (At.thenX (At.blkX (At.thenN (tR (tM rfl rfl (tA rfl rfl (tA rfl rfl (tE (At.retC (At.ret2 (.inl rfl) rfl rfl rfl rfl (fun w hw => ?_))))))))))))
    obtain ⟨x1, x2⟩ := pnd_0 hk (by assumption) (fun u hu => by obtain ⟨j, hj⟩ := List.getElem?_of_mem hu; exact hs.2 j u (by have := (List.getElem?_eq_some_iff.1 hj).1; omega) hj)
    rw [x1, x2]
    exact ⟨_, rfl, (hw.drop (List.singleton_sublist.2 (List.mem_of_getElem? (i := 0) rfl))).f0⟩
 ·rw [hfv]
  refine tM rfl rfl (tV (Val.extract rfl rfl) rfl (tV (Val.extract rfl rfl) rfl (At.alloc Tryz.zeroValue31 rfl rfl (fun b9 => (At.storeAll (i := 0) Tryz.sizeOf31 rfl rfl rfl (by simp [Value.oneCell']) rfl rfl ?_)))))
  simp only [sc0, scS]
  refine tA rfl rfl (tE (At.seq (tR (tM rfl rfl (tV (Val.bin rfl rfl rfl) rfl (tE (At.condT rfl (At.seq (At.rowNilP 45 (At.region (tA rfl rfl (tA rfl rfl (tE (At.retC (At.thenR (At.ret2 (.inl rfl) rfl rfl rfl rfl (fun w hw => ?_)))))))))))))))))
  obtain ⟨x1, x2⟩ := pnd_31 hk
  rw [x1, x2]
  exact ⟨_, rfl, (hw.drop (List.singleton_sublist.2 (List.mem_of_getElem? (i := 0) rfl))).f0⟩
end Go.Proofs.YtfchinibjhcejaaGreatDoor
namespace Go.Proofs.YtfchinibjhcejaaGreatDoor
open Go Go.Wk
theorem Rep.off0 {w0 w : World} {S : Nat → Prop} {H : List Res} {i : Nat} {r : Res} (hw : Rep w0 S H w) (ht : Tab w0) (hf : ¬ S 0) (hi : H[i]? = some r) : ¬ feet [r] 0 := fun ⟨q, hq, hb⟩ => by
  rw [List.mem_singleton.1 hq] at hb
  rcases hw.mine r (List.mem_of_getElem? hi) 0 hb with h | h
  · have := ht.old; omega
  · exact hf h
theorem Rep.offBlk {w0 w : World} {S : Nat → Prop} {H : List Res} {i j b T : Nat} {cs : List Value} {r : Res} (hw : Rep w0 S H w) (hi : H[i]? = some (blk b T cs)) (hj : H[j]? = some r) (hij : i ≠ j) : ¬ feet [r] b := fun ⟨q, hq, hb⟩ => by
  rw [List.mem_singleton.1 hq] at hb
  have hi' := List.getElem?_eq_some_iff.1 hi
  have hj' := List.getElem?_eq_some_iff.1 hj
  have hp := List.pairwise_iff_getElem.1 hw.sep
  have hf : (blk b T cs : Res).foot b := rfl
  rcases Nat.lt_or_gt_of_ne hij with h | h
  · have := hp i j hi'.1 hj'.1 h
    rw [hi'.2, hj'.2] at this
    exact this b hf hb
  · have := hp j i hj'.1 hi'.1 h
    rw [hi'.2, hj'.2] at this
    exact this b hb hf
def CellAt (w : World) (p : Nat) (γ : Gh) (σ : Ds) (b : Nat) (u : Value) : Prop := w.cell? ⟨b, 0, none⟩ = some u ∧ ¬ feet [Dev p γ σ] b
theorem CellAt.of {w0 w : World} {S : Nat → Prop} {H : List Res} {i j b T p : Nat} {γ : Gh} {σ : Ds} {u : Value} (hw : Rep w0 S H w) (hi : H[i]? = some (blk b T [u])) (hj : H[j]? = some (Dev p γ σ)) (hij : i ≠ j) : CellAt w p γ σ b u := ⟨(hw.blk hi).cell 0, Rep.offBlk hw hi hj hij⟩
theorem CellAt.on {w w1 : World} {p : Nat} {γ γ1 : Gh} {σ σ1 : Ds} {b : Nat} {u : Value} (h : CellAt w p γ σ b u) (hr : Rep w (feet [Dev p γ σ]) [Dev p γ1 σ1] w1) : CellAt w1 p γ1 σ1 b u := Rep.still hr h.1 h.2 (i := 0) rfl
def stoA (k : Nat) (x : BitVec 64) : List Ac := .st k x :: stlA [k]
def comL (σ : Ds) (ks : List Nat) (xs : List (BitVec 64)) : List (List Ac) := [wrA (recW σ ks), stoA 64 (sealW (BitVec.ofInt 64 512) (BitVec.ofInt 32 (ks.length : Int))), chA ks xs, stoA 64 0]
def recL (ks : List Nat) (xs : List (BitVec 64)) : List (List Ac) := [chA ks xs, stoA 64 0]
theorem stoA_ok {k n : Nat} {x : BitVec 64} (h : k < n) : ∀ a ∈ stoA k x, AcOk n a := by
  intro a ha
  rcases List.mem_cons.1 ha with rfl | ha
  · exact h
  · exact stlA_ok (ks := [k]) (fun k' hk' => by rw [List.mem_singleton.1 hk']; exact h) a ha
theorem chA_ok {ks : List Nat} {xs : List (BitVec 64)} {n : Nat} (h : ∀ k ∈ ks, k < n) : ∀ a ∈ chA ks xs, AcOk n a := by
  intro a ha
  unfold chA at ha
  rcases List.mem_append.1 ha with ha | ha
  · obtain ⟨c, hc, rfl⟩ := List.mem_map.1 ha
    exact h c.1 (List.of_mem_zip hc).1
  · exact stlA_ok h a ha
theorem wrA_ok {W : List (BitVec 64)} {n : Nat} (hW : W.length ≤ 16) (hn : 128 ≤ n) : ∀ a ∈ wrA W, AcOk n a := by
  intro a ha
  unfold wrA wrB at ha
  rcases List.mem_append.1 ha with ha | ha
  · exact stA_ok W 72 (by omega) a ha
  rcases List.mem_cons.1 ha with rfl | ha
  · show 65 < n; omega
  rcases List.mem_append.1 ha with ha | ha
  · have := cnt_le (a := 512) (n := 64 + 8 * W.length)
    exact flA_ok _ 8 (by omega) a ha
  · rw [List.mem_singleton.1 ha]; trivial
theorem stlA_le (ks : List Nat) : (stlA ks).length ≤ ks.length + 1 := by rw [stlA_len]; have := lnL_len ks; omega
theorem chA_le {ks : List Nat} (xs : List (BitVec 64)) : (chA ks xs).length ≤ 2 * ks.length + 1 := by
  have h1 := stlA_le ks
  unfold chA
  rw [List.length_append, List.length_map, List.length_zip]; omega
theorem stoA_le (k : Nat) (x : BitVec 64) : (stoA k x).length ≤ 3 := by
  have h1 := stlA_le [k]
  show (_ :: stlA [k]).length ≤ 3
  rw [List.length_cons]; simp only [List.length_singleton] at h1; omega
theorem wrA_le {W : List (BitVec 64)} (hW : W.length ≤ 16) : (wrA W).length ≤ 25 := by
  have := cnt_le (a := 512) (n := 64 + 8 * W.length)
  unfold wrA wrB
  rw [List.length_append, stA_len, List.length_cons, List.length_append, flA_len, List.length_singleton]; omega
abbrev ptV (b : Nat) : Value := .pointer (some ⟨b, 0, none⟩)
theorem change_ph {p : Nat} {γ γ1 : Gh} {σ σ1 : Ds} {bA bD bV : Nat} {vA vV : Value} {ks : List Nat} {xs : List (BitVec 64)} {w w1 : World} (cA : CellAt w p γ σ bA vA) (cD : CellAt w p γ σ bD (ptV p)) (cV : CellAt w p γ σ bV vV) (hvA : RdI w vA (ks.map adF)) (hoA : Off vA ((ks.map adF).map (Value.int .i64)) (feet [Dev p γ σ])) (hvV : RdW w vV xs) (hoV : Off vV (xs.map b64) (feet [Dev p γ σ])) (hxl : xs.length = ks.length) (hk : ∀ k ∈ ks, k < σ.ws.length) (hn : ks.length ≤ 8)
    (hl : σ1.ws.length = σ.ws.length) (hst : σ1.steps + 60 ≤ 1099511627776) (hr : Rep w (feet [Dev p γ σ]) [Dev p γ1 σ1] w1) : DevU Tryz.prog 93 [ptV bA, ptV bD, ptV bV] p γ1 σ1 (.int .i64 (actsE σ1 (chA ks xs)).1) (actsE σ1 (chA ks xs)).2 w1 := by
  have hm := List.mem_of_getElem? (l := [Dev p γ1 σ1]) (i := 0) rfl
  exact change1_d p γ1 σ1 bA bD bV vA vV ks xs w1 (cA.on hr).1 (cA.on hr).2 (cD.on hr).1 (cD.on hr).2 (cV.on hr).1 (cV.on hr).2 (Rd.keep hvA hr hoA) (Rep.offOld hr hvA hoA hm) (Rd.keep hvV hr hoV) (Rep.offOld hr hvV hoV hm) hxl (fun k h => by rw [hl]; exact hk k h) (by omega) (by omega) (hr.all _ hm)
theorem store_ph {p : Nat} {γ γ1 : Gh} {σ σ1 : Ds} {bD bA bV : Nat} {x : BitVec 64} {w w1 : World} (cD : CellAt w p γ σ bD (ptV p)) (cA : CellAt w p γ σ bA (.int .i64 512)) (cV : CellAt w p γ σ bV (b64 x)) (hN : 512 ≤ σ.ws.length)
    (hl : σ1.ws.length = σ.ws.length) (hst : σ1.steps + 60 ≤ 1099511627776) (hr : Rep w (feet [Dev p γ σ]) [Dev p γ1 σ1] w1) : DevU Tryz.prog 90 [ptV bD, ptV bA, ptV bV] p γ1 σ1 (.int .i64 (actsE σ1 (stoA 64 x)).1) (actsE σ1 (stoA 64 x)).2 w1 := by
  have hm := List.mem_of_getElem? (l := [Dev p γ1 σ1]) (i := 0) rfl
  exact store1_d p γ1 σ1 bD bA bV 64 x w1 (cD.on hr).1 (cD.on hr).2 (cA.on hr).1 (cA.on hr).2 (cV.on hr).1 (cV.on hr).2 (by omega) (by omega) (hr.all _ hm)
theorem write_ph {p : Nat} {γ γ1 : Gh} {σ σ1 : Ds} {bA bD : Nat} {vA : Value} {ks : List Nat} {w w1 : World} (ht : Tab w) (hf : ¬ feet [Dev p γ σ] 0) (cA : CellAt w p γ σ bA vA) (cD : CellAt w p γ σ bD (ptV p)) (hvA : RdI w vA (ks.map adF)) (hoA : Off vA ((ks.map adF).map (Value.int .i64)) (feet [Dev p γ σ])) (hk : ∀ k ∈ ks, k < σ.ws.length) (hn : ks.length ≤ 8) (hN : 512 ≤ σ.ws.length)
    (hl : σ1.ws.length = σ.ws.length) (hst : σ1.steps + 60 ≤ 1099511627776) (hr : Rep w (feet [Dev p γ σ]) [Dev p γ1 σ1] w1) : DevU Tryz.prog 84 [ptV bA, ptV bD] p γ1 σ1 (.int .i64 (actsE σ1 (wrA (recW σ1 ks))).1) (actsE σ1 (wrA (recW σ1 ks))).2 w1 := by
  have hm := List.mem_of_getElem? (l := [Dev p γ1 σ1]) (i := 0) rfl
  exact write1_d p γ1 σ1 bA bD vA ks w1 (ht.modS hr.mod hf) (Rep.off0 hr ht hf (i := 0) rfl) (cA.on hr).1 (cA.on hr).2 (cD.on hr).1 (cD.on hr).2 (Rd.keep hvA hr hoA) (Rep.offOld hr hvA hoA hm) (fun k h => by rw [hl]; exact hk k h) hn (by omega) (by omega) (hr.all _ hm)
theorem call_ph (f : PhF) (h : f.1 = 84 ∨ f.1 = 90 ∨ f.1 = 93) : ∀ args w, (callFunc f.1 args).run Tryz.prog w = .ok (.enter f.1 args) w := by
  rcases h with h | h | h <;> rw [h]
  · exact Tryz.call84
  · exact Tryz.call90
  · exact Tryz.call93
theorem comL_le {σ : Ds} {ks : List Nat} {xs : List (BitVec 64)} (hn : ks.length ≤ 8) : (comL σ ks xs).flatten.length ≤ 60 := by
  have h1 := wrA_le (W := recW σ ks) (by rw [recW_len]; omega)
  have h2 := stoA_le 64 (sealW (BitVec.ofInt 64 512) (BitVec.ofInt 32 (ks.length : Int)))
  have h3 := chA_le (ks := ks) xs
  have h4 := stoA_le 64 0
  unfold comL
  simp only [List.flatten_cons, List.flatten_nil, List.length_append, List.length_nil]; omega
theorem recL_le {ks : List Nat} {xs : List (BitVec 64)} (hn : ks.length ≤ 8) : (recL ks xs).flatten.length ≤ 60 := by
  have h3 := chA_le (ks := ks) xs
  have h4 := stoA_le 64 0
  unfold recL
  simp only [List.flatten_cons, List.flatten_nil, List.length_append, List.length_nil]; omega
def fsC (bA1 bD1 bD2 bA2 bV2 bA3 bD3 bV3 bD4 bA4 bV4 : Nat) : List PhF := [(84, [ptV bA1, ptV bD1]), (90, [ptV bD2, ptV bA2, ptV bV2]), (93, [ptV bA3, ptV bD3, ptV bV3]), (90, [ptV bD4, ptV bA4, ptV bV4])]
def fsR (bA3 bD3 bV3 bD4 bA4 bV4 : Nat) : List PhF := [(93, [ptV bA3, ptV bD3, ptV bV3]), (90, [ptV bD4, ptV bA4, ptV bV4])]
theorem run_com {p : Nat} {γ : Gh} {σ : Ds} {v vA vV : Value} {bA1 bD1 bD2 bA2 bV2 bA3 bD3 bV3 bD4 bA4 bV4 : Nat} {ks : List Nat} {xs : List (BitVec 64)} {w : World} (ht : Tab w) (hf : ¬ feet [Dev p γ σ] 0) (hv : Rd w v 1 4 ((fsC bA1 bD1 bD2 bA2 bV2 bA3 bD3 bV3 bD4 bA4 bV4).map phV)) (ho : Off v ((fsC bA1 bD1 bD2 bA2 bV2 bA3 bD3 bV3 bD4 bA4 bV4).map phV) (feet [Dev p γ σ]))
    (c1 : CellAt w p γ σ bA1 vA) (c2 : CellAt w p γ σ bD1 (ptV p)) (c3 : CellAt w p γ σ bD2 (ptV p)) (c4 : CellAt w p γ σ bA2 (.int .i64 512)) (c5 : CellAt w p γ σ bV2 (b64 (sealW (BitVec.ofInt 64 512) (BitVec.ofInt 32 (ks.length : Int))))) (c6 : CellAt w p γ σ bA3 vA) (c7 : CellAt w p γ σ bD3 (ptV p)) (c8 : CellAt w p γ σ bV3 vV) (c9 : CellAt w p γ σ bD4 (ptV p)) (c10 : CellAt w p γ σ bA4 (.int .i64 512)) (c11 : CellAt w p γ σ bV4 (b64 0))
    (hvA : RdI w vA (ks.map adF)) (hoA : Off vA ((ks.map adF).map (Value.int .i64)) (feet [Dev p γ σ])) (hvV : RdW w vV xs) (hoV : Off vV (xs.map b64) (feet [Dev p γ σ])) (hxl : xs.length = ks.length) (hk : ∀ k ∈ ks, k < σ.ws.length) (hn : ks.length ≤ 8) (hN : 512 ≤ σ.ws.length) (hst : σ.steps + 200 ≤ 1099511627776) (hd : (Dev p γ σ).holds w) :
    DevU Tryz.prog 48 [v] p γ σ (.int .i64 (actsE σ (comL σ ks xs).flatten).1) (actsE σ (comL σ ks xs).flatten).2 w := by
  have hle := comL_le (σ := σ) (xs := xs) hn
  refine run_d p γ σ v (fsC bA1 bD1 bD2 bA2 bV2 bA3 bD3 bV3 bD4 bA4 bV4) (comL σ ks xs) w hv ho rfl (show 4 ≤ 100 by decide) ?_ ?_ ?_ hd
  · intro A hA
    unfold comL at hA
    simp only [List.mem_cons, List.not_mem_nil, or_false] at hA
    rcases hA with rfl | rfl | rfl | rfl
    · exact wrA_ok (by rw [recW_len]; omega) (by omega)
    · exact stoA_ok (by omega)
    · exact chA_ok hk
    · exact stoA_ok (by omega)
  · intro f hf
    refine call_ph f ?_
    unfold fsC at hf
    simp only [List.mem_cons, List.not_mem_nil, or_false] at hf
    rcases hf with rfl | rfl | rfl | rfl
    · exact .inl rfl
    · exact .inr (.inl rfl)
    · exact .inr (.inr rfl)
    · exact .inr (.inl rfl)
  · intro j f A γ1 σ1 w1 hf' hA hl hs hp hr
    match j, hf', hA, hp with
    | 0, hf', hA, hp =>
      obtain rfl := Option.some.inj hf'
      obtain rfl := Option.some.inj hA
      have e : σ1 = σ := (congrArg Prod.snd hp).symm
      subst e
      exact write_ph ht hf c1 c2 hvA hoA hk hn hN hl (by omega) hr
    | 1, hf', hA, _ =>
      obtain rfl := Option.some.inj hf'
      obtain rfl := Option.some.inj hA
      exact store_ph c3 c4 c5 hN hl (by omega) hr
    | 2, hf', hA, _ =>
      obtain rfl := Option.some.inj hf'
      obtain rfl := Option.some.inj hA
      exact change_ph c6 c7 c8 hvA hoA hvV hoV hxl hk hn hl (by omega) hr
    | 3, hf', hA, _ =>
      obtain rfl := Option.some.inj hf'
      obtain rfl := Option.some.inj hA
      exact store_ph c9 c10 c11 hN hl (by omega) hr
    | j + 4, hf', _, _ => cases hf'
theorem run_rec {p : Nat} {γ : Gh} {σ : Ds} {v vA vV : Value} {bA3 bD3 bV3 bD4 bA4 bV4 : Nat} {ks : List Nat} {xs : List (BitVec 64)} {w : World} (hv : Rd w v 1 2 ((fsR bA3 bD3 bV3 bD4 bA4 bV4).map phV)) (ho : Off v ((fsR bA3 bD3 bV3 bD4 bA4 bV4).map phV) (feet [Dev p γ σ]))
    (c6 : CellAt w p γ σ bA3 vA) (c7 : CellAt w p γ σ bD3 (ptV p)) (c8 : CellAt w p γ σ bV3 vV) (c9 : CellAt w p γ σ bD4 (ptV p)) (c10 : CellAt w p γ σ bA4 (.int .i64 512)) (c11 : CellAt w p γ σ bV4 (b64 0))
    (hvA : RdI w vA (ks.map adF)) (hoA : Off vA ((ks.map adF).map (Value.int .i64)) (feet [Dev p γ σ])) (hvV : RdW w vV xs) (hoV : Off vV (xs.map b64) (feet [Dev p γ σ])) (hxl : xs.length = ks.length) (hk : ∀ k ∈ ks, k < σ.ws.length) (hn : ks.length ≤ 8) (hN : 512 ≤ σ.ws.length) (hst : σ.steps + 200 ≤ 1099511627776) (hd : (Dev p γ σ).holds w) :
    DevU Tryz.prog 48 [v] p γ σ (.int .i64 (actsE σ (recL ks xs).flatten).1) (actsE σ (recL ks xs).flatten).2 w := by
  have hle := recL_le (xs := xs) hn
  refine run_d p γ σ v (fsR bA3 bD3 bV3 bD4 bA4 bV4) (recL ks xs) w hv ho rfl (show 2 ≤ 100 by decide) ?_ ?_ ?_ hd
  · intro A hA
    unfold recL at hA
    simp only [List.mem_cons, List.not_mem_nil, or_false] at hA
    rcases hA with rfl | rfl
    · exact chA_ok hk
    · exact stoA_ok (by omega)
  · intro f hf
    refine call_ph f ?_
    unfold fsR at hf
    simp only [List.mem_cons, List.not_mem_nil, or_false] at hf
    rcases hf with rfl | rfl
    · exact .inr (.inr rfl)
    · exact .inr (.inl rfl)
  · intro j f A γ1 σ1 w1 hf' hA hl hs hp hr
    match j, hf', hA, hp with
    | 0, hf', hA, _ =>
      obtain rfl := Option.some.inj hf'
      obtain rfl := Option.some.inj hA
      exact change_ph c6 c7 c8 hvA hoA hvV hoV hxl hk hn hl (by omega) hr
    | 1, hf', hA, _ =>
      obtain rfl := Option.some.inj hf'
      obtain rfl := Option.some.inj hA
      exact store_ph c9 c10 c11 hN hl (by omega) hr
    | j + 2, hf', _, _ => cases hf'
end Go.Proofs.YtfchinibjhcejaaGreatDoor
namespace Go.Proofs.YtfchinibjhcejaaGreatDoor
open Go Go.Wk
theorem At.idxPO {P : Program} {Γ : Ctx} {E : Env} {H : List Res} {ops : Array Oper} {Q : Exit → Act → World → Prop} {rest : List Oper} {d : Nat} {ty : TypeId} {pos : String} {after : Array Edge} {x y : Operand} {v : Value} {t el j : Nat} {l : List (Int × BitVec 64)} {k : IntKind} {z : Int × BitVec 64} {g : Option (Nat × Bool)} (h : RdP Γ.w0 v l) (ho : Off v (prC l) Γ.S) (hu : P.underlying t = some (.slice el)) (hs : ∀ w, (sizeOf el).run P w = .ok 2 w) (hx : ev E x = some v) (hy : ev E y = some (.int k (j : Int))) (hz : l[j]? = some z)
    (hg : g = none) (hn : Nat.blt d Γ.n = true)
    (c : ∀ b o, Γ.w0.cell? ⟨b, o, none⟩ = some (.int .i64 z.1) → Γ.w0.cell? ⟨b, o + 1, none⟩ = some (b64 z.2) → ¬ Γ.S b → At Γ ((d, .pointer (some ⟨b, o, none⟩)) :: E) H (wpList P ops Q rest)) :
    At Γ E H (wpList P ops Q ({ dst := some d, op := .indexAddr t x y, type := ty, pos, after, guard := g } :: rest)) := by
  have hj := (List.getElem?_eq_some_iff.1 hz).1
  obtain ⟨b, o, cap, rfl, hc⟩ := h.at (j := j) hj
  have hp := prC_at hz
  exact At.val (Val.indexSl _ rfl hu hs hx hy (by omega) (by omega)) hg rfl hn (c b _ (by have := hc 0 _ (by rw [Nat.add_zero]; exact hp.1); rwa [Nat.add_zero] at this) (hc 1 _ hp.2) (ho (fun e => by rw [e] at hp; cases hp.1) b _ _ _ _ rfl))
def ksOf (cs : List (Int × BitVec 64)) : List Nat := cs.map fun q => (q.1 / 8).toNat
theorem ksOf_len (cs : List (Int × BitVec 64)) : (ksOf cs).length = cs.length := List.length_map ..
theorem ks_ad {cs : List (Int × BitVec 64)} {i : Int} (h : ∀ q ∈ cs, TW q.1 i) : cs.map Prod.fst = (ksOf cs).map adF := by
  unfold ksOf
  rw [List.map_map]
  refine List.map_congr_left fun q hq => ?_
  have := h q hq
  unfold TW at this
  show q.1 = 8 * (((q.1 / 8).toNat : Nat) : Int)
  omega
theorem ks_lt {cs : List (Int × BitVec 64)} {i : Int} {n : Nat} (h : ∀ q ∈ cs, TW q.1 i) (hn : 2048 + 64 * i ≤ 8 * (n : Int)) : ∀ k ∈ ksOf cs, k < n := by
  intro k hk
  obtain ⟨q, hq, rfl⟩ := List.mem_map.1 hk
  have := h q hq
  unfold TW at this
  omega
theorem pl_all {i : Int} {cs : List (Int × BitVec 64)} (h : PlK i cs cs.length) : ∀ q ∈ cs, TW q.1 i := fun q hq => by
  obtain ⟨j, hj⟩ := List.getElem?_of_mem hq
  exact (h j q (List.getElem?_eq_some_iff.1 hj).1 hj).1
theorem snd_snoc {cs : List (Int × BitVec 64)} {k : Nat} {q : Int × BitVec 64} (h : cs[k]? = some q) : (cs.take (k + 1)).map Prod.snd = (cs.take k).map Prod.snd ++ [q.2] := by rw [List.take_succ_of_get h, List.map_append]; rfl
noncomputable def comE (σ : Ds) (sp si sc sd : Int) (cs : List (Int × BitVec 64)) : Int × Ds :=
  if ¬ (GoodSup sp si sc ∧ sd = 4 + si / 8 ∧ 8 * (σ.ws.length : Int) = 512 * sp) then (30, σ) else if cs.length = 0 ∨ 8 < cs.length then (41, σ) else if ¬ PlK si cs cs.length then (40, σ)
  else if ¬ (openUnE (page (wbytes (viewWs σ.ws))) = 0 ∧ openUnL (page (wbytes (viewWs σ.ws))) = []) then (35, σ) else actsE σ (comL σ (ksOf cs) (cs.map Prod.snd)).flatten
variable {σ : Ds} {sp si sc sd : Int} {cs : List (Int × BitVec 64)}
theorem com_30 (h : ¬ (GoodSup sp si sc ∧ sd = 4 + si / 8 ∧ 8 * (σ.ws.length : Int) = 512 * sp)) : comE σ sp si sc sd cs = (30, σ) := if_pos h
theorem com_41 (h : GoodSup sp si sc ∧ sd = 4 + si / 8 ∧ 8 * (σ.ws.length : Int) = 512 * sp) (h1 : cs.length = 0 ∨ 8 < cs.length) : comE σ sp si sc sd cs = (41, σ) := by unfold comE; rw [if_neg (fun g => g h), if_pos h1]
theorem com_40 (h : GoodSup sp si sc ∧ sd = 4 + si / 8 ∧ 8 * (σ.ws.length : Int) = 512 * sp) (h1 : ¬ (cs.length = 0 ∨ 8 < cs.length)) (h2 : ¬ PlK si cs cs.length) : comE σ sp si sc sd cs = (40, σ) := by unfold comE; rw [if_neg (fun g => g h), if_neg h1, if_pos h2]
theorem com_35 (h : GoodSup sp si sc ∧ sd = 4 + si / 8 ∧ 8 * (σ.ws.length : Int) = 512 * sp) (h1 : ¬ (cs.length = 0 ∨ 8 < cs.length)) (h2 : PlK si cs cs.length) (h3 : ¬ (openUnE (page (wbytes (viewWs σ.ws))) = 0 ∧ openUnL (page (wbytes (viewWs σ.ws))) = [])) : comE σ sp si sc sd cs = (35, σ) := by unfold comE; rw [if_neg (fun g => g h), if_neg h1, if_neg (fun g => g h2), if_pos h3]
theorem com_go (h : GoodSup sp si sc ∧ sd = 4 + si / 8 ∧ 8 * (σ.ws.length : Int) = 512 * sp) (h1 : ¬ (cs.length = 0 ∨ 8 < cs.length)) (h2 : PlK si cs cs.length) (h3 : openUnE (page (wbytes (viewWs σ.ws))) = 0 ∧ openUnL (page (wbytes (viewWs σ.ws))) = []) : comE σ sp si sc sd cs = actsE σ (comL σ (ksOf cs) (cs.map Prod.snd)).flatten := by unfold comE; rw [if_neg (fun g => g h), if_neg h1, if_neg (fun g => g h2), if_neg (fun g => g h3)]
noncomputable def rcvE (σ : Ds) : Int × Int × Ds :=
  if ¬ pndE (wbytes (viewWs σ.ws)) = 0 ∨ pndL (wbytes (viewWs σ.ws)) = [] then (0, pndE (wbytes (viewWs σ.ws)), σ) else
    if (actsE σ (recL (ksOf (pndL (wbytes (viewWs σ.ws)))) ((pndL (wbytes (viewWs σ.ws))).map Prod.snd)).flatten).1 = 0 then (((pndL (wbytes (viewWs σ.ws))).length : Int), 0, (actsE σ (recL (ksOf (pndL (wbytes (viewWs σ.ws)))) ((pndL (wbytes (viewWs σ.ws))).map Prod.snd)).flatten).2) else (0, (actsE σ (recL (ksOf (pndL (wbytes (viewWs σ.ws)))) ((pndL (wbytes (viewWs σ.ws))).map Prod.snd)).flatten).1, (actsE σ (recL (ksOf (pndL (wbytes (viewWs σ.ws)))) ((pndL (wbytes (viewWs σ.ws))).map Prod.snd)).flatten).2)
theorem pnd_good {l : List UInt8} (h : pndE l = 0) : ∃ k, supK l = some k ∧ GoodSup (supP l k) (supI l k) (supC l k) ∧ supP l k * 512 = l.length ∧ ∀ q ∈ pndL l, TW q.1 (supI l k) := by
  rcases find_spec l with ⟨k, hk, hg, hp, _⟩ | ⟨hk, _⟩
  · refine ⟨k, hk, hg, hp, ?_⟩
    have h0 := h
    unfold pndE at h
    rw [hk] at h
    simp only at h
    split at h
    · exact absurd h (by decide)
    · split at h
      · rename_i h2
        unfold pndL
        rw [if_pos h0]; exact h2
      · exact absurd h (by decide)
  · rw [(pnd_31 hk).1] at h; exact absurd h (by decide)
theorem pndL_le (l : List UInt8) : (pndL l).length ≤ 8 := by
  unfold pndL
  split
  · exact openUn_len _
  · simp
theorem commit_d (p : Nat) (γ : Gh) (σ : Ds) (sp si sc sd : Int) (v : Value) (cs : List (Int × BitVec 64)) (w : World) (ht : Tab w) (hf : ¬ feet [Dev p γ σ] 0) (hv : RdP w v cs) (hoV : Off v (prC cs) (feet [Dev p γ σ])) (hb : ∀ q ∈ cs, -9223372036854775808 ≤ q.1 ∧ q.1 ≤ 9223372036854775807) (hcl : cs.length ≤ 140737488355328) (hst : σ.steps + 200 ≤ 1099511627776) (hd : (Dev p γ σ).holds w) :
    DevU Tryz.prog 23 [.pointer (some ⟨p, 0, none⟩), .agg #[.int .i64 sp, .int .i64 si, .int .i64 sc, .int .i64 sd], v] p γ σ (.int .i64 (comE σ sp si sc sd cs).1) (comE σ sp si sc sd cs).2 w := by
 refine enterVc hd Tryz.func23 rfl Tryz.ntmps23 rfl ?_
 have hgd := Dev.good hd
 have hln := hgd.len
 simp only [envOf]
 refine tR (At.box rfl rfl rfl (fun b1 => (tA rfl rfl (tE (At.seq (tR (tM rfl rfl (tV (Val.loadAll (i := 0) Tryz.isAgg31 Tryz.sizeOf31 rfl rfl rfl) rfl (At.callK 1 rfl (fun w hw hr => fits_k _ _ σ _ _ _ _ w hr) Tryz.call45 rfl rfl (tV (Val.not rfl) rfl (tE ?_)))))))))))
 refine At.cond rfl (fun h2 => ?_) (fun h2 => ?_)
 ·try simp only [hasB, isSizeB, sB] at h2
  have hX := h2
  refine tR (tA rfl rfl (tE (At.retC (At.thenR (At.ret1 (.inl rfl) rfl rfl rfl (fun w hw => ?_))))))
  rw [com_30 hX]
  exact ⟨_, rfl, hw.drop (List.singleton_sublist.2 (List.mem_of_getElem? (i := 1) rfl))⟩
 ·try simp only [hasB, isSizeB, sB] at h2
  have hX := h2
  obtain ⟨hg, hsd, hN⟩ := hX
  have hX := (show GoodSup sp si sc ∧ sd = 4 + si / 8 ∧ 8 * (σ.ws.length : Int) = 512 * sp from ⟨hg, hsd, hN⟩)
  have hg2 := hg
  unfold GoodSup at hg2
  refine At.skipC (At.thenN (At.seq (tR (At.weaken [(0, _), (1, _), (2, _), (4, _), (6, _), (12, _), (13, _), (14, _), (15, _)] (Sub.cons rfl (Sub.cons rfl (Sub.cons rfl (Sub.cons rfl (Sub.cons rfl (Sub.cons rfl (Sub.cons rfl (Sub.cons rfl (Sub.cons rfl Sub.nil))))))))) ?_))))
  refine At.boolMeet 8 23 (decide (cs.length = 0 ∨ 8 < cs.length)) ?_ ?_
  ·simp only [List.take_succ_cons, List.take_zero]
   refine tM rfl rfl (tV (Val.lenRd hv Tryz.underlying24 rfl) rfl (tV (Val.bin rfl rfl rfl) rfl (tM rfl rfl ?_)))
   refine At.split (t := 19) rfl (fun h3 => ?_) (fun h3 => ?_)
   ·try simp only [hasB, isSizeB, sB] at h3
    refine At.no rfl rfl rfl rfl (At.no rfl rfl rfl rfl (At.no rfl rfl rfl rfl (tV (Val.pickT rfl rfl) rfl (At.nil ?_))))
    exact At.boolEnd rfl (by apply Bool.eq_iff_iff.2; (simp only [decide_eq_true_eq, Bool.false_eq_true, false_iff, true_iff, iff_true, iff_false, gt_iff_lt, ge_iff_le, beq_iff_eq, bne_iff_ne, ne_eq]) <;> omega) (by repeat (first | exact Sub.nil | refine Sub.cons rfl ?_))
   ·try simp only [hasB, isSizeB, sB] at h3
    refine At.yes rfl rfl (tM rfl rfl (At.yes rfl rfl (tV (Val.lenRd hv Tryz.underlying24 rfl) rfl (At.yes rfl rfl (tV (Val.bin rfl rfl rfl) rfl (tV (Val.pickF rfl rfl) rfl (At.nil ?_)))))))
    exact At.boolEnd rfl (by apply Bool.eq_iff_iff.2; (simp only [decide_eq_true_eq, Bool.false_eq_true, false_iff, true_iff, iff_true, iff_false, gt_iff_lt, ge_iff_le, beq_iff_eq, bne_iff_ne, ne_eq]) <;> omega) (by repeat (first | exact Sub.nil | refine Sub.cons rfl ?_))
  ·simp only [List.drop_succ_cons, List.drop_zero]
   refine tE ?_
   refine At.cond rfl (fun h4 => ?_) (fun h4 => ?_)
   ·try simp only [hasB, isSizeB, sB] at h4
    refine tR (tA rfl rfl (tE (At.retC (At.thenR (At.ret1 (.inl rfl) rfl rfl rfl (fun w hw => ?_))))))
    rw [com_41 hX (by assumption)]
    exact ⟨_, rfl, hw.drop (List.singleton_sublist.2 (List.mem_of_getElem? (i := 1) rfl))⟩
   ·try simp only [hasB, isSizeB, sB] at h4
    refine At.skipC (At.thenN (tR (tV (Val.loadAll (i := 0) Tryz.isAgg31 Tryz.sizeOf31 rfl rfl rfl) rfl (tM rfl rfl (At.callNT (g := (fun v => .tuple #[v, .int .i64 (plE si cs)])) (fun w hw => places_n _ _ _ _ v cs w (Rd.keep hv hw hoV) (by omega) hb (by omega)) Tryz.call46 rfl rfl (fun v5 => ?_))))))
    by_cases hpl : PlK si cs cs.length
    ·obtain ⟨x1, x2⟩ := pl_yes hpl
     have hka := ks_ad (pl_all hpl)
     rw [x1, x2, hka]
     refine tM rfl rfl (tV (Val.extract rfl rfl) rfl (tV (Val.extract rfl rfl) rfl (tA rfl rfl (tA rfl rfl (tE (At.seq (tR (tM rfl rfl (tV (Val.bin rfl rfl rfl) rfl (tE (At.condF rfl (At.skipC (At.thenN (At.seq (tR (tM rfl rfl (At.callK 2 rfl (fun w hw hr => isEmpty_k _ _ σ w (ht.modS hw.mod hf) (Rep.off0 hw ht hf (i := 2) rfl) (by omega) hr) Tryz.call47 rfl rfl (tV (Val.not rfl) rfl (tE ?_)))))))))))))))))))
     refine At.cond rfl (fun h6 => ?_) (fun h6 => ?_)
     ·try simp only [hasB, isSizeB, sB] at h6
      refine tR (tA rfl rfl (tE (At.retC (At.thenR (At.ret1 (.inl rfl) rfl rfl rfl (fun w hw => ?_))))))
      rw [com_35 hX (by assumption) hpl (by assumption)]
      exact ⟨_, rfl, hw.drop (List.singleton_sublist.2 (List.mem_of_getElem? (i := 2) rfl))⟩
     ·try simp only [hasB, isSizeB, sB] at h6
      refine At.skipC (At.thenN (tR (tA rfl rfl (At.nil (At.rowNilW 43 (At.thenN (At.seq (tR (tM rfl rfl (tV (Val.lenRd hv Tryz.underlying24 rfl) rfl (tM rfl rfl (tE (At.block ?_)))))))))))))
      skip
      refine At.loop (σ := Nat × Value) (fun s => s.1 ≤ cs.length) (fun s => [(0, .pointer (some ⟨p, 0, none⟩)), (7, v5), (9, s.2), (36, v), (37, .int .i64 (cs.length : Int)), (38, .int .i64 (s.1 : Int))]) (fun s => [wrow 43 s.2 ((cs.take s.1).map Prod.snd), rowR v5 3 1 ((((ksOf cs).map adF)).length) ((((ksOf cs).map adF)).map (Value.int .i64)), blk b1 31 ([.int .i64 sp, .int .i64 si, .int .i64 sc, .int .i64 sd]), Dev p γ (σ)]) (fun s => cs.length - s.1) (0, .slice none 0 0) (Nat.zero_le _) (Sub.cons rfl (Sub.cons rfl (Sub.cons rfl (Sub.cons rfl (Sub.cons rfl (Sub.cons rfl Sub.nil)))))) (List.Perm.refl _) ?_
      intro s hs
      obtain ⟨k, vk⟩ := s
      dsimp only at hs ⊢
      have hml : ((cs.take k).map Prod.snd).length = k := by rw [List.length_map, List.length_take]; omega
      refine tR (tV (Val.bin rfl rfl rfl) rfl (tE (At.seq ?_)))
      refine At.cond rfl (fun h7 => ?_) (fun h7 => ?_)
      ·try simp only [hasB, isSizeB, sB] at h7
       refine At.skipC (At.thenN (At.seq (At.block (tR ?_))))
       obtain ⟨q, hq⟩ : ∃ q, cs[k]? = some q := ⟨_, List.getElem?_eq_getElem (by omega)⟩
       refine At.idxPO hv hoV Tryz.underlying24 Tryz.sizeOf56 rfl rfl hq rfl rfl (fun bx ox hc0 hc1 hox => (tV (Val.loadPair Tryz.isAgg56 Tryz.sizeOf56 rfl hc0 hc1 hox) rfl (At.alloc Tryz.zeroValue56 rfl rfl (fun b8 => (At.storeAll (i := 0) Tryz.sizeOf56 rfl rfl rfl (by simp [Value.oneCell']) rfl rfl ?_)))))
       simp only [sc0, scS]
       refine tE (At.region (tM rfl rfl (tV (Val.field 1 rfl fo_56_1 rfl) rfl (tV (Val.load (i := 0) Tryz.isAgg43 rfl rfl rfl) rfl (At.buildSl (fun a ha => by simp only [List.map_toArray, List.map_cons, List.map_nil, ha.eval (x := (.tmp 44)) rfl]; try rfl) (bs_98_1 _ ) rfl (fun b9 => (At.appendWs (i := 2) (j := 0) (ms := [q.2]) (by_ := 8) Tryz.underlying98 info_43 rfl rfl rfl rfl rfl rfl rfl rfl rfl (by omega) (by omega) rfl (fun v10 => ?_))))))))
       simp only [sc0, scS]
       refine At.drop 0 ?_
       simp only [ec0, ecS]
       refine tA rfl rfl (At.nil (At.blkN (At.thenN (At.region ?_))))
       first | refine tV (Val.addI rfl rfl (by omega) (by omega)) rfl ?_ | refine tV (Val.bin rfl rfl rfl) rfl ?_
       refine tM rfl rfl (tE (At.drop 0 ?_))
       simp only [ec0, ecS]
       exact At.again (k + 1, v10) (show k + 1 ≤ _ by omega) (by dsimp only; omega) (Sub.cons rfl (Sub.cons rfl (Sub.cons rfl (Sub.cons rfl (Sub.cons rfl (Sub.cons (congrArg (fun z => some (Value.int IntKind.i64 z)) (by dsimp only; omega)) Sub.nil)))))) (by dsimp only; rw [snd_snoc hq])
      ·try simp only [hasB, isSizeB, sB] at h7
       refine At.exitC (At.thenX (At.thenX (At.blkX (At.thenN (At.seq ?_)))))
       obtain rfl : k = cs.length := by omega
       rw [List.take_length]
       have hkl : ((ksOf cs).map adF).length = (ksOf cs).length := List.length_map ..
       refine At.rowIs (i := 0) rfl (fun A11 c12 hv => ?_)
       subst hv
       refine At.rowIs (i := 1) rfl (fun A13 c14 hv => ?_)
       subst hv
       refine At.region (tM rfl rfl (tM rfl rfl (At.callYs (fun w hw => writeP_n p _ rfl w) Tryz.call49 rfl rfl (fun y1 => ?_))))
       simp only [List.cons_append, List.nil_append]
       refine tM rfl rfl (tM rfl rfl (tV (Val.lenRow (i := 3) Tryz.underlying63 rfl rfl) rfl (tV (Val.conv Tryz.underlying3 Tryz.underlying106 rfl) rfl ?_)))
       rw [wrap_u32_int]
       refine At.callP (fun w hw => seal_p _ _ w (ht.modS hw.mod hf)) Tryz.call51 rfl rfl (At.callYs (fun w hw => storeP_n p 512 _ w) Tryz.call50 rfl rfl (fun y2 => ?_))
       simp only [List.cons_append, List.nil_append]
       refine tM rfl rfl (tM rfl rfl (tM rfl rfl (At.callYs (fun w hw => changeP_n p _ _ rfl rfl w) Tryz.call52 rfl rfl (fun y3 => ?_))))
       simp only [List.cons_append, List.nil_append]
       refine tM rfl rfl (At.callYs (fun w hw => storeP_n p 512 0 w) Tryz.call50 rfl rfl (fun y4 => ?_))
       simp only [List.cons_append, List.nil_append]
       refine At.buildRow (fun a ha => by simp only [List.map_toArray, List.map_cons, List.map_nil, ha.eval (x := (.tmp 50)) rfl, ha.eval (x := (.tmp 56)) rfl, ha.eval (x := (.tmp 60)) rfl, ha.eval (x := (.tmp 62)) rfl]; try rfl) (bs_ph4 _ _ _ _ ) 1 rfl (by decide) rfl (fun vp => ?_)
       refine At.callD 15 rfl (fun w hw hr => run_com (ht.modS hw.mod hf) (Rep.off0 hw ht hf (i := 15) rfl) (row_rd (hw.row (i := 0) rfl) (by decide)) (Rep.offRow (i := 0) (j := 15) hw rfl rfl (by decide)) (CellAt.of hw (i := 11) (j := 15) rfl rfl (by decide)) (CellAt.of hw (i := 10) (j := 15) rfl rfl (by decide)) (CellAt.of hw (i := 7) (j := 15) rfl rfl (by decide)) (CellAt.of hw (i := 8) (j := 15) rfl rfl (by decide)) (by have h9 := (CellAt.of hw (i := 9) (j := 15) rfl rfl (by decide)); rw [hkl] at h9; exact h9) (CellAt.of hw (i := 5) (j := 15) rfl rfl (by decide)) (CellAt.of hw (i := 4) (j := 15) rfl rfl (by decide)) (CellAt.of hw (i := 6) (j := 15) rfl rfl (by decide)) (CellAt.of hw (i := 1) (j := 15) rfl rfl (by decide)) (CellAt.of hw (i := 2) (j := 15) rfl rfl (by decide)) (CellAt.of hw (i := 3) (j := 15) rfl rfl (by decide)) (row_rd (hw.row (i := 13) rfl) (by decide)) (Rep.offRow (i := 13) (j := 15) hw rfl rfl (by decide)) (row_rd (hw.row (i := 12) rfl) (by decide)) (Rep.offRow (i := 12) (j := 15) hw rfl rfl (by decide)) (by rw [List.length_map, ksOf_len]) (ks_lt (pl_all hpl) (by omega)) (by rw [ksOf_len]; omega) (by omega) (by omega) hr) Tryz.call48 rfl rfl (fun y15 => ?_)
       simp only [sc0, scS]
       refine tA rfl rfl (tE (At.retC (At.ret1 (.inl rfl) rfl rfl rfl (fun w hw => ?_))))
       rw [com_go hX (by assumption) hpl (by assumption)]
       exact ⟨_, rfl, hw.drop (List.singleton_sublist.2 (List.mem_of_getElem? (i := 15) rfl))⟩
    ·obtain ⟨x1, x2⟩ := pl_no hpl
     rw [x1, x2]
     refine tM rfl rfl (tV (Val.extract rfl rfl) rfl (tV (Val.extract rfl rfl) rfl (tA rfl rfl (tA rfl rfl (tE (At.seq (tR (tM rfl rfl (tV (Val.bin rfl rfl rfl) rfl (tE (At.condT rfl (tR (tM rfl rfl (tA rfl rfl (tE (At.retC (At.thenR (At.ret1 (.inl rfl) rfl rfl rfl (fun w hw => ?_)))))))))))))))))))
     rw [com_40 hX (by assumption) hpl]
     exact ⟨_, rfl, hw.drop (List.singleton_sublist.2 (List.mem_of_getElem? (i := 2) rfl))⟩
end Go.Proofs.YtfchinibjhcejaaGreatDoor
namespace Go.Proofs.YtfchinibjhcejaaGreatDoor
open Go Go.Wk
theorem rcv_no {σ : Ds} (h : ¬ pndE (wbytes (viewWs σ.ws)) = 0 ∨ pndL (wbytes (viewWs σ.ws)) = []) : rcvE σ = (0, pndE (wbytes (viewWs σ.ws)), σ) := if_pos h
theorem rcv_0 {σ : Ds} (h : ¬ (¬ pndE (wbytes (viewWs σ.ws)) = 0 ∨ pndL (wbytes (viewWs σ.ws)) = [])) (h1 : (actsE σ (recL (ksOf (pndL (wbytes (viewWs σ.ws)))) ((pndL (wbytes (viewWs σ.ws))).map Prod.snd)).flatten).1 = 0) : rcvE σ = (((pndL (wbytes (viewWs σ.ws))).length : Int), 0, (actsE σ (recL (ksOf (pndL (wbytes (viewWs σ.ws)))) ((pndL (wbytes (viewWs σ.ws))).map Prod.snd)).flatten).2) := by unfold rcvE; rw [if_neg h, if_pos h1]
theorem rcv_e {σ : Ds} (h : ¬ (¬ pndE (wbytes (viewWs σ.ws)) = 0 ∨ pndL (wbytes (viewWs σ.ws)) = [])) (h1 : ¬ (actsE σ (recL (ksOf (pndL (wbytes (viewWs σ.ws)))) ((pndL (wbytes (viewWs σ.ws))).map Prod.snd)).flatten).1 = 0) : rcvE σ = (0, (actsE σ (recL (ksOf (pndL (wbytes (viewWs σ.ws)))) ((pndL (wbytes (viewWs σ.ws))).map Prod.snd)).flatten).1, (actsE σ (recL (ksOf (pndL (wbytes (viewWs σ.ws)))) ((pndL (wbytes (viewWs σ.ws))).map Prod.snd)).flatten).2) := by unfold rcvE; rw [if_neg h, if_neg h1]
theorem recover_d (p : Nat) (γ : Gh) (σ : Ds) (w : World) (ht : Tab w) (hf : ¬ feet [Dev p γ σ] 0) (hst : σ.steps + 200 ≤ 1099511627776) (hd : (Dev p γ σ).holds w) :
    DevU Tryz.prog 25 [.pointer (some ⟨p, 0, none⟩)] p γ σ (.tuple #[.int .i64 (rcvE σ).1, .int .i64 (rcvE σ).2.1]) (rcvE σ).2.2 w := by
 refine enterVc hd Tryz.func25 rfl Tryz.ntmps25 rfl ?_
 have hgd := Dev.good hd
 have hln := hgd.len
 have hXl : (wbytes (viewWs σ.ws)).length = 8 * σ.ws.length := by rw [wbytes_length, viewWs, List.length_map]
 simp only [envOf]
 refine tR (tA rfl rfl (tA rfl rfl (tE (tR (tM rfl rfl (At.callRK 0 rfl (fun w hw hr => view_k _ _ _ w hr) Tryz.call26 rfl rfl (fun v1 => (At.callNT (g := (fun v => .tuple #[v, .int .i64 (pndE (wbytes (viewWs σ.ws)))])) (fun w hw => pending_n _ (wbytes (viewWs σ.ws)) w (ht.modS hw.mod hf) (row_rd (hw.row (i := 0) rfl) (by decide)) (by omega)) Tryz.call15 rfl rfl (fun v2 => (tM rfl rfl (tV (Val.extract rfl rfl) rfl (tV (Val.extract rfl rfl) rfl (tA rfl rfl (tA rfl rfl (tE (At.seq (tR (At.weaken [(0, _), (2, _), (3, _), (12, _), (13, _), (14, _), (11, _), (15, _), (16, _), (4, _), (5, _)] (Sub.cons rfl (Sub.cons rfl (Sub.cons rfl (Sub.cons rfl (Sub.cons rfl (Sub.cons rfl (Sub.cons rfl (Sub.cons rfl (Sub.cons rfl (Sub.cons rfl (Sub.cons rfl Sub.nil))))))))))) ?_))))))))))))))))))
 refine At.boolMeet 7 23 (decide (¬ pndE (wbytes (viewWs σ.ws)) = 0 ∨ (pndL (wbytes (viewWs σ.ws))) = [])) ?_ ?_
 ·simp only [List.take_succ_cons, List.take_zero]
  refine tM rfl rfl (tV (Val.bin rfl rfl rfl) rfl (tM rfl rfl ?_))
  refine At.split (t := 19) rfl (fun h3 => ?_) (fun h3 => ?_)
  ·try simp only [hasB, isSizeB, sB] at h3
   refine At.no rfl rfl rfl rfl (At.no rfl rfl rfl rfl (At.no rfl rfl rfl rfl (tV (Val.pickT rfl rfl) rfl (At.nil ?_))))
   exact At.boolEnd rfl (by apply Bool.eq_iff_iff.2; (simp only [decide_eq_true_eq, Bool.false_eq_true, false_iff, true_iff, beq_iff_eq]) <;> first | exact .inl (by assumption) | exact ⟨fun g => .inr (List.eq_nil_of_length_eq_zero (by omega)), fun g => g.elim (fun g => absurd (by assumption) g) (fun g => by rw [g]; rfl)⟩) (by repeat (first | exact Sub.nil | refine Sub.cons rfl ?_))
  ·try simp only [hasB, isSizeB, sB] at h3
   refine At.yes rfl rfl (tM rfl rfl (At.yes rfl rfl (tV (Val.lenRow (i := 0) Tryz.underlying25 rfl rfl) rfl (At.yes rfl rfl (tV (Val.bin rfl rfl rfl) rfl (tV (Val.pickF rfl rfl) rfl (At.nil ?_)))))))
   exact At.boolEnd rfl (by apply Bool.eq_iff_iff.2; (simp only [decide_eq_true_eq, Bool.false_eq_true, false_iff, true_iff, beq_iff_eq]) <;> first | exact .inl (by assumption) | exact ⟨fun g => .inr (List.eq_nil_of_length_eq_zero (by omega)), fun g => g.elim (fun g => absurd (by assumption) g) (fun g => by rw [g]; rfl)⟩) (by repeat (first | exact Sub.nil | refine Sub.cons rfl ?_))
 ·simp only [List.drop_succ_cons, List.drop_zero]
  refine tE ?_
  refine At.cond rfl (fun h4 => ?_) (fun h4 => ?_)
  ·try simp only [hasB, isSizeB, sB] at h4
   have hno := h4
   refine tR (tM rfl rfl (tA rfl rfl (tA rfl rfl (tE (At.retC (At.thenR (At.ret2 (.inl rfl) rfl rfl rfl rfl (fun w hw => ?_))))))))
   rw [rcv_no hno]
   exact ⟨_, rfl, hw.drop (List.singleton_sublist.2 (List.mem_of_getElem? (i := 2) rfl))⟩
  ·try simp only [hasB, isSizeB, sB] at h4
   have hno := h4
   obtain ⟨kk, hkk, hg, hpl, htw⟩ := pnd_good (l := (wbytes (viewWs σ.ws))) (Classical.byContradiction fun g => hno (.inl g))
   have hg2 := hg
   unfold GoodSup at hg2
   refine At.skipC (At.thenN (tR (tA rfl rfl (tE (tR (tA rfl rfl (At.nil (At.rowNilI 3 (At.rowNilW 43 (At.thenN (At.seq (tR (tM rfl rfl (tV (Val.lenRow (i := 2) Tryz.underlying25 rfl rfl) rfl (tM rfl rfl (tE (At.block ?_)))))))))))))))))
   skip
   refine At.drop 3 ?_
   simp only [ec0, ecS]
   refine At.loop (σ := Nat × Value × Value) (fun s => s.1 ≤ (pndL (wbytes (viewWs σ.ws))).length) (fun s => [(0, .pointer (some ⟨p, 0, none⟩)), (4, v2), (6, s.2.1), (7, s.2.2), (25, v2), (26, .int .i64 ((pndL (wbytes (viewWs σ.ws))).length : Int)), (27, .int .i64 (s.1 : Int))]) (fun s => [wrow 43 s.2.2 (((pndL (wbytes (viewWs σ.ws))).take s.1).map Prod.snd), irow 3 s.2.1 (((pndL (wbytes (viewWs σ.ws))).take s.1).map Prod.fst), rowR v2 45 2 ((pndL (wbytes (viewWs σ.ws))).length) (prC (pndL (wbytes (viewWs σ.ws)))), Dev p γ (σ)]) (fun s => (pndL (wbytes (viewWs σ.ws))).length - s.1) (0, .slice none 0 0, .slice none 0 0) (Nat.zero_le _) (Sub.cons rfl (Sub.cons rfl (Sub.cons rfl (Sub.cons rfl (Sub.cons rfl (Sub.cons rfl (Sub.cons rfl Sub.nil))))))) (List.Perm.refl _) ?_
   intro s hs
   obtain ⟨k, va, vt⟩ := s
   dsimp only at hs ⊢
   have hu8 := pndL_le (wbytes (viewWs σ.ws))
   have hml : (((pndL (wbytes (viewWs σ.ws))).take k).map Prod.fst).length = k := by rw [List.length_map, List.length_take]; omega
   have hmt : (((pndL (wbytes (viewWs σ.ws))).take k).map Prod.snd).length = k := by rw [List.length_map, List.length_take]; omega
   refine tR (tV (Val.bin rfl rfl rfl) rfl (tE (At.seq ?_)))
   refine At.cond rfl (fun h5 => ?_) (fun h5 => ?_)
   ·try simp only [hasB, isSizeB, sB] at h5
    refine At.skipC (At.thenN (At.seq (At.block (tR ?_))))
    obtain ⟨q, hq⟩ : ∃ q, (pndL (wbytes (viewWs σ.ws)))[k]? = some q := ⟨_, List.getElem?_eq_getElem (by omega)⟩
    refine tV (Val.indexRow (i := 2) (k * 2) (by omega) Tryz.underlying25 Tryz.sizeOf45 rfl rfl rfl (by omega) (by omega)) rfl (tV (Val.loadRowPart (i := 2) (vs := [.int .i64 q.1, b64 q.2]) Tryz.isAgg45 Tryz.sizeOf45 rfl rfl rfl (fun m u hm => by match m, hm with | 0, hm => (obtain rfl := Option.some.inj hm; exact (prC_at hq).1) | 1, hm => (obtain rfl := Option.some.inj hm; exact (prC_at hq).2))) rfl (At.alloc Tryz.zeroValue45 rfl rfl (fun b6 => (At.storeAll (i := 0) Tryz.sizeOf45 rfl rfl rfl (by simp [Value.oneCell']) rfl rfl ?_))))
    simp only [sc0, scS]
    refine tE ?_
    apply At.any (t := 12)
    · rfl
    refine KAt.pin (fun w hw => hw.drop (List.Sublist.cons_cons _ (List.Sublist.cons _ (List.Sublist.cons _ (List.Sublist.cons_cons _ (List.Sublist.cons_cons _ (List.Sublist.refl _))))))) (KAt.take 0 (Val.move rfl) rfl rfl rfl rfl (fun w hw => hw.drop (List.Sublist.cons_cons _ (List.Sublist.cons _ (List.Sublist.cons _ (List.Sublist.cons_cons _ (List.Sublist.cons_cons _ (List.Sublist.refl _))))))) (by decide +kernel) (KAt.take 1 (Val.field 0 rfl fo_45_0 rfl) rfl rfl rfl rfl (fun w hw => hw.drop (List.Sublist.cons_cons _ (List.Sublist.cons _ (List.Sublist.cons _ (List.Sublist.cons_cons _ (List.Sublist.cons_cons _ (List.Sublist.refl _))))))) (by decide +kernel) (KAt.take 2 (Val.load (i := 0) Tryz.isAgg3 rfl rfl rfl) rfl rfl rfl rfl (fun w hw => hw.drop (List.Sublist.cons_cons _ (List.Sublist.cons _ (List.Sublist.cons _ (List.Sublist.cons_cons _ (List.Sublist.cons_cons _ (List.Sublist.refl _))))))) (by decide +kernel) (KAt.take 5 (Val.move rfl) rfl rfl rfl rfl (fun w hw => hw.drop (List.Sublist.cons_cons _ (List.Sublist.cons _ (List.Sublist.cons _ (List.Sublist.cons_cons _ (List.Sublist.cons_cons _ (List.Sublist.refl _))))))) (by decide +kernel) (KAt.take 6 (Val.field 1 rfl fo_45_1 rfl) rfl rfl rfl rfl (fun w hw => hw.drop (List.Sublist.cons_cons _ (List.Sublist.cons _ (List.Sublist.cons _ (List.Sublist.cons_cons _ (List.Sublist.cons_cons _ (List.Sublist.refl _))))))) (by decide +kernel) (KAt.take 7 (Val.load (i := 0) Tryz.isAgg43 rfl rfl rfl) rfl rfl rfl rfl (fun w hw => hw.drop (List.Sublist.cons_cons _ (List.Sublist.cons _ (List.Sublist.cons _ (List.Sublist.cons_cons _ (List.Sublist.cons_cons _ (List.Sublist.refl _))))))) (by decide +kernel) ?_))))))
    refine KAt.two 3 8 rfl rfl (by decide +kernel) ?_ ?_
    ·refine At.buildSl (fun a ha => by simp only [List.map_toArray, List.map_cons, List.map_nil, ha.eval (x := (.tmp 33)) rfl]; try rfl) (bs_63_1 _ ) rfl (fun b7 => (At.nil (KAt.go (fun w hw => hw.drop (List.Sublist.cons _ (List.Sublist.cons_cons _ (List.Sublist.cons _ (List.Sublist.cons _ (List.Sublist.cons_cons _ (List.Sublist.cons_cons _ (List.Sublist.refl _)))))))) ?_)))
     refine KAt.two 4 8 rfl rfl (by decide +kernel) ?_ ?_
     ·refine At.appendI1 (i := 3) (j := 0) (by_ := 8) Tryz.underlying63 info_3 rfl rfl rfl rfl rfl rfl rfl rfl (by omega) (by omega) rfl (fun v8 => ?_)
      simp only [sc0, scS]
      refine At.drop 0 ?_
      simp only [ec0, ecS]
      refine At.nil (KAt.go (fun w hw => hw.drop (List.Sublist.cons_cons _ (List.Sublist.cons _ (List.Sublist.cons _ (List.Sublist.cons_cons _ (List.Sublist.cons_cons _ (List.Sublist.refl _))))))) (KAt.only 8 rfl (by decide +kernel) (At.buildSl (fun a ha => by simp only [List.map_toArray, List.map_cons, List.map_nil, ha.eval (x := (.tmp 38)) rfl]; try rfl) (bs_98_1 _ ) rfl (fun b9 => (At.nil (KAt.go (fun w hw => hw.drop (List.Sublist.cons _ (List.Sublist.cons_cons _ (List.Sublist.cons _ (List.Sublist.cons _ (List.Sublist.cons_cons _ (List.Sublist.cons_cons _ (List.Sublist.refl _)))))))) (KAt.only 9 rfl (by decide +kernel) ?_)))))))
      refine At.appendWs (i := 2) (j := 0) (ms := [q.2]) (by_ := 8) Tryz.underlying98 info_43 rfl rfl rfl rfl rfl rfl rfl rfl rfl (by first | omega | (simp only [List.length_cons, List.length_nil]; omega)) (by first | omega | (simp only [List.length_cons, List.length_nil]; omega)) rfl (fun v10 => ?_)
      simp only [sc0, scS]
      refine At.drop 0 ?_
      simp only [ec0, ecS]
      refine At.nil (KAt.go (fun w hw => hw.drop (List.Sublist.cons_cons _ (List.Sublist.cons _ (List.Sublist.cons _ (List.Sublist.cons_cons _ (List.Sublist.cons_cons _ (List.Sublist.refl _))))))) (KAt.take 10 (Val.assign rfl) rfl rfl rfl rfl (fun w hw => hw.drop (List.Sublist.cons_cons _ (List.Sublist.cons _ (List.Sublist.cons _ (List.Sublist.cons_cons _ (List.Sublist.cons_cons _ (List.Sublist.refl _))))))) (by decide +kernel) (KAt.take 11 (Val.assign rfl) rfl rfl rfl rfl (fun w hw => hw.drop (List.Sublist.cons_cons _ (List.Sublist.cons _ (List.Sublist.cons _ (List.Sublist.cons_cons _ (List.Sublist.cons_cons _ (List.Sublist.refl _))))))) (by decide +kernel) (KAt.done (by decide +kernel) (At.blkN (At.thenN (At.region ?_)))))))
      first | refine tV (Val.addI rfl rfl (by omega) (by omega)) rfl ?_ | refine tV (Val.bin rfl rfl rfl) rfl ?_
      refine tM rfl rfl (tE (At.drop 0 ?_))
      simp only [ec0, ecS]
      exact At.again (k + 1, v8, v10) (show k + 1 ≤ _ by omega) (by dsimp only; omega) (Sub.cons rfl (Sub.cons rfl (Sub.cons rfl (Sub.cons rfl (Sub.cons rfl (Sub.cons rfl (Sub.cons (congrArg (fun z => some (Value.int IntKind.i64 z)) (by dsimp only; omega)) Sub.nil))))))) (by dsimp only; rw [snd_snoc hq, map_take_snoc hq])
     ·refine At.buildSl (fun a ha => by simp only [List.map_toArray, List.map_cons, List.map_nil, ha.eval (x := (.tmp 38)) rfl]; try rfl) (bs_98_1 _ ) rfl (fun b11 => (At.nil (KAt.go (fun w hw => hw.drop (List.Sublist.cons _ (List.Sublist.cons _ (List.Sublist.cons_cons _ (List.Sublist.cons _ (List.Sublist.cons _ (List.Sublist.cons_cons _ (List.Sublist.cons_cons _ (List.Sublist.refl _))))))))) (KAt.only 4 rfl (by decide +kernel) (At.appendI1 (i := 4) (j := 1) (by_ := 8) Tryz.underlying63 info_3 rfl rfl rfl rfl rfl rfl rfl rfl (by omega) (by omega) rfl (fun v12 => ?_))))))
      simp only [sc0, scS]
      refine At.drop 1 ?_
      simp only [ec0, ecS]
      refine At.nil (KAt.go (fun w hw => hw.drop (List.Sublist.cons _ (List.Sublist.cons_cons _ (List.Sublist.cons _ (List.Sublist.cons _ (List.Sublist.cons_cons _ (List.Sublist.cons_cons _ (List.Sublist.refl _)))))))) (KAt.only 9 rfl (by decide +kernel) ?_))
      refine At.appendWs (i := 2) (j := 0) (ms := [q.2]) (by_ := 8) Tryz.underlying98 info_43 rfl rfl rfl rfl rfl rfl rfl rfl rfl (by first | omega | (simp only [List.length_cons, List.length_nil]; omega)) (by first | omega | (simp only [List.length_cons, List.length_nil]; omega)) rfl (fun v13 => ?_)
      simp only [sc0, scS]
      refine At.drop 0 ?_
      simp only [ec0, ecS]
      refine At.nil (KAt.go (fun w hw => hw.drop (List.Sublist.cons_cons _ (List.Sublist.cons _ (List.Sublist.cons _ (List.Sublist.cons_cons _ (List.Sublist.cons_cons _ (List.Sublist.refl _))))))) (KAt.take 10 (Val.assign rfl) rfl rfl rfl rfl (fun w hw => hw.drop (List.Sublist.cons_cons _ (List.Sublist.cons _ (List.Sublist.cons _ (List.Sublist.cons_cons _ (List.Sublist.cons_cons _ (List.Sublist.refl _))))))) (by decide +kernel) (KAt.take 11 (Val.assign rfl) rfl rfl rfl rfl (fun w hw => hw.drop (List.Sublist.cons_cons _ (List.Sublist.cons _ (List.Sublist.cons _ (List.Sublist.cons_cons _ (List.Sublist.cons_cons _ (List.Sublist.refl _))))))) (by decide +kernel) (KAt.done (by decide +kernel) (At.blkN (At.thenN (At.region ?_)))))))
      first | refine tV (Val.addI rfl rfl (by omega) (by omega)) rfl ?_ | refine tV (Val.bin rfl rfl rfl) rfl ?_
      refine tM rfl rfl (tE (At.drop 0 ?_))
      simp only [ec0, ecS]
      exact At.again (k + 1, v12, v13) (show k + 1 ≤ _ by omega) (by dsimp only; omega) (Sub.cons rfl (Sub.cons rfl (Sub.cons rfl (Sub.cons rfl (Sub.cons rfl (Sub.cons rfl (Sub.cons (congrArg (fun z => some (Value.int IntKind.i64 z)) (by dsimp only; omega)) Sub.nil))))))) (by dsimp only; rw [snd_snoc hq, map_take_snoc hq])
    ·refine At.buildSl (fun a ha => by simp only [List.map_toArray, List.map_cons, List.map_nil, ha.eval (x := (.tmp 38)) rfl]; try rfl) (bs_98_1 _ ) rfl (fun b14 => (At.nil (KAt.go (fun w hw => hw.drop (List.Sublist.cons _ (List.Sublist.cons_cons _ (List.Sublist.cons _ (List.Sublist.cons _ (List.Sublist.cons_cons _ (List.Sublist.cons_cons _ (List.Sublist.refl _)))))))) (KAt.only 3 rfl (by decide +kernel) (At.buildSl (fun a ha => by simp only [List.map_toArray, List.map_cons, List.map_nil, ha.eval (x := (.tmp 33)) rfl]; try rfl) (bs_63_1 _ ) rfl (fun b15 => (At.nil (KAt.go (fun w hw => hw.drop (List.Sublist.cons _ (List.Sublist.cons _ (List.Sublist.cons_cons _ (List.Sublist.cons _ (List.Sublist.cons _ (List.Sublist.cons_cons _ (List.Sublist.cons_cons _ (List.Sublist.refl _))))))))) (KAt.only 4 rfl (by decide +kernel) (At.appendI1 (i := 4) (j := 0) (by_ := 8) Tryz.underlying63 info_3 rfl rfl rfl rfl rfl rfl rfl rfl (by omega) (by omega) rfl (fun v16 => ?_)))))))))))
     simp only [sc0, scS]
     refine At.drop 0 ?_
     simp only [ec0, ecS]
     refine At.nil (KAt.go (fun w hw => hw.drop (List.Sublist.cons _ (List.Sublist.cons_cons _ (List.Sublist.cons _ (List.Sublist.cons _ (List.Sublist.cons_cons _ (List.Sublist.cons_cons _ (List.Sublist.refl _)))))))) (KAt.only 9 rfl (by decide +kernel) ?_))
     refine At.appendWs (i := 2) (j := 0) (ms := [q.2]) (by_ := 8) Tryz.underlying98 info_43 rfl rfl rfl rfl rfl rfl rfl rfl rfl (by first | omega | (simp only [List.length_cons, List.length_nil]; omega)) (by first | omega | (simp only [List.length_cons, List.length_nil]; omega)) rfl (fun v17 => ?_)
     simp only [sc0, scS]
     refine At.drop 0 ?_
     simp only [ec0, ecS]
     refine At.nil (KAt.go (fun w hw => hw.drop (List.Sublist.cons_cons _ (List.Sublist.cons _ (List.Sublist.cons _ (List.Sublist.cons_cons _ (List.Sublist.cons_cons _ (List.Sublist.refl _))))))) (KAt.take 10 (Val.assign rfl) rfl rfl rfl rfl (fun w hw => hw.drop (List.Sublist.cons_cons _ (List.Sublist.cons _ (List.Sublist.cons _ (List.Sublist.cons_cons _ (List.Sublist.cons_cons _ (List.Sublist.refl _))))))) (by decide +kernel) (KAt.take 11 (Val.assign rfl) rfl rfl rfl rfl (fun w hw => hw.drop (List.Sublist.cons_cons _ (List.Sublist.cons _ (List.Sublist.cons _ (List.Sublist.cons_cons _ (List.Sublist.cons_cons _ (List.Sublist.refl _))))))) (by decide +kernel) (KAt.done (by decide +kernel) (At.blkN (At.thenN (At.region ?_)))))))
     first | refine tV (Val.addI rfl rfl (by omega) (by omega)) rfl ?_ | refine tV (Val.bin rfl rfl rfl) rfl ?_
     refine tM rfl rfl (tE (At.drop 0 ?_))
     simp only [ec0, ecS]
     exact At.again (k + 1, v16, v17) (show k + 1 ≤ _ by omega) (by dsimp only; omega) (Sub.cons rfl (Sub.cons rfl (Sub.cons rfl (Sub.cons rfl (Sub.cons rfl (Sub.cons rfl (Sub.cons (congrArg (fun z => some (Value.int IntKind.i64 z)) (by dsimp only; omega)) Sub.nil))))))) (by dsimp only; rw [snd_snoc hq, map_take_snoc hq])
   ·try simp only [hasB, isSizeB, sB] at h5
    refine At.exitC (At.thenX (At.thenX (At.blkX (At.thenN (At.seq (At.seq ?_))))))
    obtain rfl : k = (pndL (wbytes (viewWs σ.ws))).length := by omega
    rw [List.take_length, ks_ad htw]
    refine At.rowIs (i := 0) rfl (fun A18 c19 hv => ?_)
    subst hv
    refine At.rowIs (i := 1) rfl (fun A20 c21 hv => ?_)
    subst hv
    refine At.region (tM rfl rfl (tM rfl rfl (tM rfl rfl (At.callYs (fun w hw => changeP_n p _ _ rfl rfl w) Tryz.call52 rfl rfl (fun y3 => ?_)))))
    simp only [List.cons_append, List.nil_append]
    refine tM rfl rfl (At.callYs (fun w hw => storeP_n p 512 0 w) Tryz.call50 rfl rfl (fun y4 => ?_))
    simp only [List.cons_append, List.nil_append]
    refine At.buildRow (fun a ha => by simp only [List.map_toArray, List.map_cons, List.map_nil, ha.eval (x := (.tmp 45)) rfl, ha.eval (x := (.tmp 47)) rfl]; try rfl) (bs_ph2 _ _ ) 1 rfl (by decide) rfl (fun vp => ?_)
    obtain ⟨e3, he3⟩ : ∃ e, e = (actsE σ (recL (ksOf (pndL (wbytes (viewWs σ.ws)))) ((pndL (wbytes (viewWs σ.ws))).map Prod.snd)).flatten).1 := ⟨_, rfl⟩
    refine At.callD 10 rfl (fun w hw hr => (by have h0 := run_rec (row_rd (hw.row (i := 0) rfl) (by decide)) (Rep.offRow (i := 0) (j := 10) hw rfl rfl (by decide)) (CellAt.of hw (i := 5) (j := 10) rfl rfl (by decide)) (CellAt.of hw (i := 4) (j := 10) rfl rfl (by decide)) (CellAt.of hw (i := 6) (j := 10) rfl rfl (by decide)) (CellAt.of hw (i := 1) (j := 10) rfl rfl (by decide)) (CellAt.of hw (i := 2) (j := 10) rfl rfl (by decide)) (CellAt.of hw (i := 3) (j := 10) rfl rfl (by decide)) (row_rd (hw.row (i := 8) rfl) (by decide)) (Rep.offRow (i := 8) (j := 10) hw rfl rfl (by decide)) (row_rd (hw.row (i := 7) rfl) (by decide)) (Rep.offRow (i := 7) (j := 10) hw rfl rfl (by decide)) (by rw [List.length_map, ksOf_len]) (ks_lt htw (by omega)) (by rw [ksOf_len]; omega) (by omega) (by omega) hr; rw [← he3] at h0; exact h0)) Tryz.call48 rfl rfl (fun y22 => ?_)
    simp only [sc0, scS]
    refine tA rfl rfl (tE (tR (tM rfl rfl (tV (Val.bin rfl rfl rfl) rfl (tE ?_)))))
    refine At.cond rfl (fun h23 => ?_) (fun h23 => ?_)
    ·try simp only [hasB, isSizeB, sB] at h23
     refine tR (tM rfl rfl (tA rfl rfl (tA rfl rfl (tE (At.retC (At.thenR (At.ret2 (.inl rfl) rfl rfl rfl rfl (fun w hw => ?_))))))))
     rw [rcv_e hno (by rw [← he3]; assumption), ← he3]
     exact ⟨_, rfl, hw.drop (List.singleton_sublist.2 (List.mem_of_getElem? (i := 10) rfl))⟩
    ·try simp only [hasB, isSizeB, sB] at h23
     refine At.skipC (At.thenN (tR (tM rfl rfl (tV (Val.lenRow (i := 9) Tryz.underlying25 rfl rfl) rfl (tA rfl rfl (tA rfl rfl (tE (At.retC (At.ret2 (.inl rfl) rfl rfl rfl rfl (fun w hw => ?_))))))))))
     rw [rcv_0 hno (by rw [← he3]; assumption)]
     exact ⟨_, rfl, hw.drop (List.singleton_sublist.2 (List.mem_of_getElem? (i := 10) rfl))⟩
end Go.Proofs.YtfchinibjhcejaaGreatDoor
namespace Go.Proofs.YtfchinibjhcejaaGreatDoor
open Go Go.Wk
theorem bs_29_0 (w : World) : (Instr.buildSlice 29 0 #[]).run Tryz.prog w = .ok (.slice (some ⟨w.heap.size, 0, none⟩) 0 0) (w.alloc (.cells [].toArray 5)) := by kernel_rfl
theorem At.rowCap {Γ : Ctx} {E : Env} {H : List Res} {v : Value} {i e sz n : Nat} {xs : List Value} {φ : Act → World → Prop} (hi : H[i]? = some (rowR v e sz n xs)) (hn : 0 < n) (k : ∀ b c, v = .slice (some ⟨b, 0, none⟩) n c → n ≤ c → At Γ E H φ) : At Γ E H φ := fun a w ha hw => by
  rcases (hw.row hi).2 with ⟨_, h⟩ | ⟨b, cap, cur, h, _, _, hc, _⟩
  · omega
  · exact k b cap h hc a w ha hw
def ovlL (l : List UInt8) (L : List (Int × BitVec 64)) : List UInt8 := L.foldl (fun m u => put8 m u.1.toNat u.2) l
theorem ovl_snoc {l : List UInt8} {L : List (Int × BitVec 64)} {k : Nat} {q : Int × BitVec 64} (h : L[k]? = some q) : ovlL l (L.take (k + 1)) = put8 (ovlL l (L.take k)) q.1.toNat q.2 := by unfold ovlL; rw [List.take_succ_of_get h, List.foldl_append]; rfl
theorem ovl_len {l : List UInt8} : ∀ {L : List (Int × BitVec 64)}, (∀ u ∈ L, u.1.toNat + 8 ≤ l.length) → (ovlL l L).length = l.length := by
  intro L
  induction L generalizing l with
  | nil => intro _; rfl
  | cons u L ih =>
    intro h
    have h0 := h u (List.mem_cons_self ..)
    have e : (put8 l u.1.toNat u.2).length = l.length := putK_length u.2 h0 (by decide)
    show (ovlL (put8 l u.1.toNat u.2) L).length = _
    rw [ih (fun x hx => by rw [e]; exact h x (List.mem_cons_of_mem _ hx)), e]
theorem bytes1 (x : BitVec 64) : bytesW [x] = le8 x := by simp [bytesW]
theorem ov_step (Y : List UInt8) (o : Nat) (x : BitVec 64) : Y.take o ++ bytesW [x] ++ Y.drop (o + (bytesW [x]).length) = put8 Y o x := by
  rw [bytes1]
  have : (le8 x).length = 8 := le_length ..
  unfold put8 putK
  rw [this, List.take_of_length_le (l := le8 x) (by omega)]
noncomputable def ovR (l : List UInt8) : List UInt8 := if pndE l = 0 then ovlL l (pndL l) else []
theorem ovR_no {l : List UInt8} (h : ¬ pndE l = 0) : ovR l = [] := if_neg h
theorem ovR_yes {l : List UInt8} (h : pndE l = 0) : ovR l = ovlL l (pndL l) := if_pos h
theorem pnd_le {l : List UInt8} (h : pndE l = 0) : l.length ≤ 524288 := by
  obtain ⟨k, _, hg, hp, ht⟩ := pnd_good h
  unfold GoodSup at hg
  omega
theorem pnd_in {l : List UInt8} (h : pndE l = 0) : 1024 ≤ l.length ∧ ∀ u ∈ pndL l, 0 ≤ u.1 ∧ u.1.toNat + 8 ≤ l.length ∧ u.1 < 1000000 := by
  obtain ⟨k, _, hg, hp, ht⟩ := pnd_good h
  unfold GoodSup at hg
  refine ⟨by omega, fun u hu => ?_⟩
  have := ht u hu
  unfold TW at this
  omega
theorem clone_b (v : Value) (l : List UInt8) (w : World) (hv : RdB w v l) (hpos : 0 < l.length) (hl : l.length ≤ 140737488355328) :
    NewRow Tryz.prog 40 [v] 5 1 l.length (l.map bv) w := by
 refine enter (feet []) [] Tryz.func40 rfl Tryz.ntmps40 rfl ⟨by simp, by simp, by simp, Mod.refl _ _⟩ ?_
 obtain ⟨av, cv, hvs⟩ : ∃ a c, v = .slice (some a) l.length c := by obtain ⟨L0, o0, c0, h0, _⟩ := RdB.some hv hpos; exact ⟨_, _, h0⟩
 simp only [envOf]
 refine tR (tA rfl rfl (tE (At.seq (tR (tM rfl rfl (tV (Val.eqNilS (t := 29) Tryz.underlying29 (congrArg some hvs)) rfl (tE (At.condF rfl (At.skipC (At.thenN (tR (At.buildRow (fun a ha => by simp only [List.map_toArray, List.map_cons, List.map_nil]; try rfl) (bs_29_0 ) 1 rfl (by decide) rfl (fun v1 => ?_)))))))))))))
 change At _ _ (brow 5 v1 (([] : List UInt8)) :: _) _
 refine tM rfl rfl (At.appendRdB (i := 0) (by_ := 1) Tryz.underlying29 info_5 rfl rfl rfl rfl rfl rfl rfl hv (fun _ _ _ _ _ _ _ h => by simp [feet] at h) (by simp only [List.length_nil]; omega) (by simp only [List.length_nil]; omega) rfl (fun v2 => ?_))
 simp only [List.set_cons_zero, List.nil_append]
 refine tA rfl rfl (tE (At.retC (At.ret1 (.inl rfl) rfl rfl rfl (fun w hw => ?_))))
 exact ⟨_, rfl, hw⟩
theorem overlay_n (v : Value) (l : List UInt8) (w : World) (ht : Tab w) (hv : RdB w v l) (hlen : l.length ≤ 140737489000000) :
    NewRowT Tryz.prog 16 [v] (fun v => .tuple #[v, .int .i64 (pndE l)]) 5 1 (ovR l).length ((ovR l).map bv) w := by
 refine enter0 Tryz.func16 rfl Tryz.ntmps16 rfl ?_
 simp only [envOf]
 refine tR (tA rfl rfl (tA rfl rfl (tE (tR (tM rfl rfl (At.callNT (g := (fun v => .tuple #[v, .int .i64 (pndE l)])) (fun w hw => pending_n v l w (ht.mod hw.mod) (hv.mod hw.mod) hlen) Tryz.call15 rfl rfl (fun v1 => (tM rfl rfl (tV (Val.extract rfl rfl) rfl (tV (Val.extract rfl rfl) rfl (tA rfl rfl (tA rfl rfl (tE (At.seq (tR (tM rfl rfl (tV (Val.bin rfl rfl rfl) rfl (tE ?_))))))))))))))))))
 refine At.cond rfl (fun h2 => ?_) (fun h2 => ?_)
 ·try simp only [hasB, isSizeB, sB] at h2
  refine At.seq (At.rowNilB 5 (At.region (tM rfl rfl (tA rfl rfl (tA rfl rfl (tE (At.retC (At.thenR (At.ret2 (.inl rfl) rfl rfl rfl rfl (fun w hw => ?_))))))))))
  rw [ovR_no (by assumption)]
  exact ⟨_, rfl, (hw.drop (List.singleton_sublist.2 (List.mem_of_getElem? (i := 0) rfl))).f0⟩
 ·try simp only [hasB, isSizeB, sB] at h2
  have he0 : pndE l = 0 := h2
  obtain ⟨hl1, hin⟩ := pnd_in he0
  have hl5 := pnd_le he0
  have hu8 := pndL_le l
  refine At.skipC (At.thenN (tR (tM rfl rfl (At.callN (fun w hw => clone_b v l w (hv.mod hw.mod) (by omega) (Nat.le_trans (pnd_le he0) (by decide))) Tryz.call40 rfl rfl (fun v3 => (tA rfl rfl (tE (At.seq (At.seq (At.rowCap (i := 0) rfl (by omega) (fun bo co hv9 hcap => ?_)))))))))))
  subst hv9
  refine At.region (tM rfl rfl (tV (Val.lenRow (i := 1) Tryz.underlying25 rfl rfl) rfl (tM rfl rfl (tE (At.block ?_)))))
  skip
  refine At.loop (σ := Nat) (fun k => k ≤ (pndL l).length) (fun k => [(6, (.slice (some ⟨bo, 0, none⟩) l.length co)), (19, v1), (20, .int .i64 ((pndL l).length : Int)), (21, .int .i64 (k : Int))]) (fun k => [rowR (.slice (some ⟨bo, 0, none⟩) l.length co) 5 1 (l.length) ((ovlL l ((pndL l).take k)).map bv), rowR v1 45 2 ((pndL l).length) (prC (pndL l))]) (fun k => (pndL l).length - k) 0 (Nat.zero_le _) (Sub.cons rfl (Sub.cons rfl (Sub.cons rfl (Sub.cons rfl Sub.nil)))) (by first | exact List.Perm.refl _ | exact (List.Perm.swap ..)) ?_
  intro k hs
  have hol : ∀ j, (ovlL l ((pndL l).take j)).length = l.length := fun j => ovl_len (fun u hu => (hin u (List.mem_of_mem_take hu)).2.1)
  have hok := hol k
  refine tR (tV (Val.bin rfl rfl rfl) rfl (tE (At.seq ?_)))
  refine At.cond rfl (fun h4 => ?_) (fun h4 => ?_)
  ·try simp only [hasB, isSizeB, sB] at h4
   refine At.skipC (At.thenN (At.seq (At.block (tR ?_))))
   obtain ⟨q, hq⟩ : ∃ q, (pndL l)[k]? = some q := ⟨_, List.getElem?_eq_getElem (by omega)⟩
   have hqi := hin q (List.mem_of_getElem? hq)
   refine tV (Val.indexRow (i := 1) (k * 2) (by omega) Tryz.underlying25 Tryz.sizeOf45 rfl rfl rfl (by omega) (by omega)) rfl (tV (Val.loadRowPart (i := 1) (vs := [.int .i64 q.1, b64 q.2]) Tryz.isAgg45 Tryz.sizeOf45 rfl rfl rfl (fun m u hm => by match m, hm with | 0, hm => (obtain rfl := Option.some.inj hm; exact (prC_at hq).1) | 1, hm => (obtain rfl := Option.some.inj hm; exact (prC_at hq).2))) rfl (At.alloc Tryz.zeroValue45 rfl rfl (fun b5 => (At.storeAll (i := 0) Tryz.sizeOf45 rfl rfl rfl (by simp [Value.oneCell']) rfl rfl ?_))))
   simp only [sc0, scS]
   refine tE ?_
   apply At.any (t := 9)
   · rfl
   refine KAt.pin (fun w hw => hw.drop (List.Sublist.cons_cons _ (List.Sublist.cons _ (List.Sublist.cons_cons _ (List.Sublist.refl _))))) (KAt.take 0 (Val.move rfl) rfl rfl rfl rfl (fun w hw => hw.drop (List.Sublist.cons_cons _ (List.Sublist.cons _ (List.Sublist.cons_cons _ (List.Sublist.refl _))))) (by decide +kernel) (KAt.take 1 (Val.field 0 rfl fo_45_0 rfl) rfl rfl rfl rfl (fun w hw => hw.drop (List.Sublist.cons_cons _ (List.Sublist.cons _ (List.Sublist.cons_cons _ (List.Sublist.refl _))))) (by decide +kernel) (KAt.take 2 (Val.load (i := 0) Tryz.isAgg3 rfl rfl rfl) rfl rfl rfl rfl (fun w hw => hw.drop (List.Sublist.cons_cons _ (List.Sublist.cons _ (List.Sublist.cons_cons _ (List.Sublist.refl _))))) (by decide +kernel) (KAt.take 3 (Val.cutSl q.1.toNat l.length q.1.toNat (l.length - q.1.toNat) (co - q.1.toNat) Tryz.underlying29 Tryz.sizeOf5 rfl (by exact ⟨_, _, rfl, by omega, by omega⟩) (by exact rfl) (by omega) (by omega) (by rw [if_neg (by omega)]; omega) rfl rfl) rfl rfl rfl rfl (fun w hw => hw.drop (List.Sublist.cons_cons _ (List.Sublist.cons _ (List.Sublist.cons_cons _ (List.Sublist.refl _))))) (by decide +kernel) (KAt.take 4 (Val.field 1 rfl fo_45_1 rfl) rfl rfl rfl rfl (fun w hw => hw.drop (List.Sublist.cons_cons _ (List.Sublist.cons _ (List.Sublist.cons_cons _ (List.Sublist.refl _))))) (by decide +kernel) (KAt.take 5 (Val.load (i := 0) Tryz.isAgg43 rfl rfl rfl) rfl rfl rfl rfl (fun w hw => hw.drop (List.Sublist.cons_cons _ (List.Sublist.cons _ (List.Sublist.cons_cons _ (List.Sublist.refl _))))) (by decide +kernel) (KAt.only 6 rfl (by decide +kernel) (At.buildRow (fun a ha => by simp only [List.map_toArray, List.map_cons, List.map_nil, ha.eval (x := (.tmp 30)) rfl]; try rfl) (bs_98_1 _ ) 1 rfl (by decide) rfl (fun v6 => ?_)))))))))
   change At _ _ (wrow 43 v6 ([q.2]) :: _) _
   refine At.nil (KAt.go (fun w hw => hw.drop (List.Sublist.cons _ (List.Sublist.cons_cons _ (List.Sublist.cons _ (List.Sublist.cons_cons _ (List.Sublist.refl _)))))) (KAt.only 7 rfl (by decide +kernel) (At.callN (fun w hw => bytes_n _ [q.2] w (row_rd (hw.row (i := 0) rfl) (by decide)) (show 1 ≤ 1000000 by omega)) Tryz.call41 rfl rfl (fun v7 => (At.nil (KAt.go (fun w hw => hw.drop (List.Sublist.cons _ (List.Sublist.cons _ (List.Sublist.cons_cons _ (List.Sublist.cons _ (List.Sublist.cons_cons _ (List.Sublist.refl _))))))) (KAt.only 8 rfl (by decide +kernel) ?_)))))))
   refine At.copyRowB (i := 3) (j := 0) (o := q.1.toNat) Tryz.underlying29 Tryz.sizeOf5 rfl rfl rfl rfl (by rw [bytesW_length]; exact (show 0 < 8 * 1 by decide)) (by rw [bytesW_length]; simp only [List.length_singleton]; omega) (by rw [bytesW_length]; simp only [List.length_singleton]; omega) rfl ?_
   simp only [sc0, scS]
   rw [ov_step]
   refine At.nil (KAt.go (fun w hw => hw.drop (List.Sublist.cons _ (List.Sublist.cons _ (List.Sublist.cons_cons _ (List.Sublist.cons _ (List.Sublist.cons_cons _ (List.Sublist.refl _))))))) (KAt.done (by decide +kernel) (At.blkN (At.thenN (At.region ?_)))))
   first | refine tV (Val.addI rfl rfl (by omega) (by omega)) rfl ?_ | refine tV (Val.bin rfl rfl rfl) rfl ?_
   refine tM rfl rfl (tE (At.drop 2 ?_))
   simp only [ec0, ecS]
   refine At.drop 0 ?_
   simp only [ec0, ecS]
   refine At.drop 0 ?_
   simp only [ec0, ecS]
   exact At.again (k + 1) (show k + 1 ≤ _ by omega) (by omega) (Sub.cons rfl (Sub.cons rfl (Sub.cons rfl (Sub.cons (congrArg (fun z => some (Value.int IntKind.i64 z)) (by omega)) Sub.nil)))) (by rw [ovl_snoc hq])
  ·try simp only [hasB, isSizeB, sB] at h4
   refine At.exitC (At.thenX (At.thenX (At.blkX (At.thenN (tR (tM rfl rfl (tA rfl rfl (tA rfl rfl (tE (At.retC (At.ret2 (.inl rfl) rfl rfl rfl rfl (fun w hw => ?_))))))))))))
   obtain rfl : k = (pndL l).length := by omega
   rw [List.take_length] at hok hw
   rw [ovR_yes he0, hok, he0]
   exact ⟨_, rfl, (hw.drop (List.singleton_sublist.2 (List.mem_of_getElem? (i := 0) rfl))).f0⟩
end Go.Proofs.YtfchinibjhcejaaGreatDoor
namespace Go.Proofs.YtfchinibjhcejaaGreatDoor
open Go Go.Wk
end Go.Proofs.YtfchinibjhcejaaGreatDoor
namespace Go.Proofs.YtfchinibjhcejaaGreatDoor
open Go Go.Wk
def undW (L : List (Int × BitVec 64)) : List (BitVec 64) := L.flatMap fun (u : Int × BitVec 64) => [BitVec.ofInt 64 u.1, u.2]
theorem undW_len : ∀ (L : List (Int × BitVec 64)), (undW L).length = 2 * L.length
  | [] => rfl
  | u :: L => by
    show (_ ++ undW L).length = _
    rw [List.length_append, undW_len L]; simp only [List.length_cons, List.length_nil]; omega
end Go.Proofs.YtfchinibjhcejaaGreatDoor
namespace Go.Proofs.YtfchinibjhcejaaGreatDoor
open Go Go.Wk
theorem QAt.idxPO {P : Program} {Γ : Ctx} {E : Env} {H : List Res} {ops : Array Oper} {rest : List Oper} {ψ : Act → Prop} {d : Nat} {ty : TypeId} {pos : String} {after : Array Edge} {x y : Operand} {v : Value} {t el j : Nat} {l : List (Int × BitVec 64)} {k : IntKind} {z : Int × BitVec 64} {g : Option (Nat × Bool)} (h : RdP Γ.w0 v l) (ho : Off v (prC l) Γ.S) (hu : P.underlying t = some (.slice el)) (hs : ∀ w, (sizeOf el).run P w = .ok 2 w) (hx : ev E x = some v) (hy : ev E y = some (.int k (j : Int))) (hz : l[j]? = some z)
    (hg : g = none) (hn : Nat.blt d Γ.n = true)
    (c : ∀ b o, Γ.w0.cell? ⟨b, o, none⟩ = some (.int .i64 z.1) → Γ.w0.cell? ⟨b, o + 1, none⟩ = some (b64 z.2) → ¬ Γ.S b → QAt P Γ ops ((d, .pointer (some ⟨b, o, none⟩)) :: E) H rest ψ) :
    QAt P Γ ops E H ({ dst := some d, op := .indexAddr t x y, type := ty, pos, after, guard := g } :: rest) ψ := by
  have hj := (List.getElem?_eq_some_iff.1 hz).1
  obtain ⟨b, o, cap, rfl, hc⟩ := h.at (j := j) hj
  have hp := prC_at hz
  exact QAt.val (Val.indexSl _ rfl hu hs hx hy (by omega) (by omega)) hg rfl hn (c b _ (by have := hc 0 _ (by rw [Nat.add_zero]; exact hp.1); rwa [Nat.add_zero] at this) (hc 1 _ hp.2) (ho (fun e => by rw [e] at hp; cases hp.1) b _ _ _ _ rfl))
end Go.Proofs.YtfchinibjhcejaaGreatDoor
namespace Go.Proofs.YtfchinibjhcejaaGreatDoor
open Go Go.Wk
variable {σ : Ds} {sp si sc sd : Int} {cs : List (Int × BitVec 64)}
end Go.Proofs.YtfchinibjhcejaaGreatDoor
namespace Go.Proofs.YtfchinibjhcejaaGreatDoor
open Go Go.Wk
theorem acs_ok {σ : Ds} {ks : List Nat} {xs : List (BitVec 64)} (hk : ∀ k ∈ ks, k < σ.ws.length) (hn : ks.length ≤ 8) (hN : 512 ≤ σ.ws.length) : (∀ a ∈ (comL σ ks xs).flatten, AcOk σ.ws.length a) ∧ ∀ a ∈ (recL ks xs).flatten, AcOk σ.ws.length a := by
  refine ⟨fun a ha => ?_, fun a ha => ?_⟩
  · obtain ⟨A, hA, ha⟩ := List.mem_flatten.1 ha
    unfold comL at hA
    simp only [List.mem_cons, List.not_mem_nil, or_false] at hA
    rcases hA with rfl | rfl | rfl | rfl
    · exact wrA_ok (by rw [recW_len]; omega) (by omega) a ha
    · exact stoA_ok (by omega) a ha
    · exact chA_ok hk a ha
    · exact stoA_ok (by omega) a ha
  · obtain ⟨A, hA, ha⟩ := List.mem_flatten.1 ha
    unfold recL at hA
    simp only [List.mem_cons, List.not_mem_nil, or_false] at hA
    rcases hA with rfl | rfl
    · exact chA_ok hk a ha
    · exact stoA_ok (by omega) a ha
end Go.Proofs.YtfchinibjhcejaaGreatDoor
namespace Go.Proofs.YtfchinibjhcejaaGreatDoor
open Go Go.Wk
end Go.Proofs.YtfchinibjhcejaaGreatDoor
namespace Go.Proofs.YtfchinibjhcejaaGreatDoor
open Go Go.Wk
theorem packB_le (L : List (Int × BitVec 64)) : (packB L).length ≤ 192 := by
  by_cases h : GoodUn L
  · rw [packB_T h, undoB_length]; have := h.2.1; omega
  · rw [packB_F h]; decide
def layI (l : List UInt8) (a : Int) (x : BitVec 64) : List UInt8 := if a < 0 ∨ (l.length : Int) - 8 < a then l else put8 l a.toNat x
theorem layI_no {l : List UInt8} {a : Int} {x : BitVec 64} (h : a < 0 ∨ (l.length : Int) - 8 < a) : layI l a x = l := if_pos h
theorem layI_yes {l : List UInt8} {a : Int} {x : BitVec 64} (h : ¬ (a < 0 ∨ (l.length : Int) - 8 < a)) : layI l a x = put8 l a.toNat x := if_neg h
theorem layI_len {l : List UInt8} {a : Int} {x : BitVec 64} : (layI l a x).length = l.length := by
  unfold layI
  split
  · rfl
  · exact putK_length x (by omega) (by decide)
def wordsI (l : List UInt8) (W : List (Int × BitVec 64)) : List UInt8 := W.foldl (fun m q => layI m q.1 q.2) l
theorem wordsI_len {l : List UInt8} : ∀ (W : List (Int × BitVec 64)), (wordsI l W).length = l.length := by
  intro W
  induction W generalizing l with
  | nil => rfl
  | cons q W ih => show (wordsI (layI l q.1 q.2) W).length = _; rw [ih, layI_len]
theorem wordsI_snoc {l : List UInt8} {W : List (Int × BitVec 64)} {k : Nat} {q : Int × BitVec 64} (h : W[k]? = some q) : wordsI l (W.take (k + 1)) = layI (wordsI l (W.take k)) q.1 q.2 := by unfold wordsI; rw [List.take_succ_of_get h, List.foldl_append]; rfl
def overK (l : List UInt8) (o : Nat) (u : List UInt8) (k : Nat) : List UInt8 := l.take o ++ u.take k ++ l.drop (o + k)
theorem overK_len {l u : List UInt8} {o k : Nat} (h : o + k ≤ l.length) (hk : k ≤ u.length) : (overK l o u k).length = l.length := by unfold overK; rw [List.length_append, List.length_append, List.length_take, List.length_take, List.length_drop]; omega
theorem overK_zero (l : List UInt8) (o : Nat) (u : List UInt8) : overK l o u 0 = l := by unfold overK; rw [List.take_zero, List.append_nil, Nat.add_zero, List.take_append_drop]
theorem overK_step {l u : List UInt8} {o k : Nat} {c : UInt8} (hc : u[k]? = some c) (h : o + k < l.length) : (overK l o u k).set (o + k) c = overK l o u (k + 1) := by
  have hk := (List.getElem?_eq_some_iff.1 hc).1
  unfold overK
  have e : (l.take o ++ u.take k).length = o + k := by rw [List.length_append, List.length_take, List.length_take]; omega
  rw [List.set_append_right _ _ (by omega), e, Nat.sub_self, List.drop_eq_getElem_cons h, List.set_cons_zero, List.take_succ_of_get hc, ← List.append_assoc, List.append_assoc (l.take o ++ u.take k)]
  rfl
noncomputable def undoI (l : List UInt8) (U : List (Int × BitVec 64)) : List UInt8 := overK l 512 (packB U) (packB U).length
theorem undoI_no {l : List UInt8} {U : List (Int × BitVec 64)} (h : ¬ packE U = 0) : undoI l U = l := by
  have hg : ¬ GoodUn U := fun g => h (packE_T g)
  unfold undoI
  rw [packB_F hg]; exact overK_zero ..
theorem undoI_len {l : List UInt8} {U : List (Int × BitVec 64)} (h : 1024 ≤ l.length) : (undoI l U).length = l.length := overK_len (by have := packB_le U; omega) (Nat.le_refl _)
def supR (l L : List UInt8) (k : Nat) : List UInt8 := (List.range k).foldl (fun m j => (m.set j (L.getD j 0)).set (64 + j) (L.getD j 0)) l
theorem supR_succ (l L : List UInt8) (k : Nat) : supR l L (k + 1) = ((supR l L k).set k (L.getD k 0)).set (64 + k) (L.getD k 0) := by unfold supR; rw [List.range_succ, List.foldl_append]; rfl
theorem supR_len (l L : List UInt8) : ∀ (k : Nat), (supR l L k).length = l.length
  | 0 => rfl
  | k + 1 => by rw [supR_succ, List.length_set, List.length_set, supR_len l L k]
def supS (p i c : Int) : Int × Int × Int := if GoodSup p i c then (p, i, c) else (24, 8, 1)
theorem supS_yes {p i c : Int} (h : GoodSup p i c) : supS p i c = (p, i, c) := if_pos h
theorem supS_no {p i c : Int} (h : ¬ GoodSup p i c) : supS p i c = (24, 8, 1) := if_neg h
theorem supS_good (p i c : Int) : GoodSup (supS p i c).1 (supS p i c).2.1 (supS p i c).2.2 := by
  unfold supS
  split
  · assumption
  · decide
abbrev supLn (s : Int × Int × Int) : List UInt8 := lineL (superB s.1.toNat s.2.1.toNat s.2.2.toNat)
theorem supLn_len (s : Int × Int × Int) : (supLn s).length = 64 := lineL_length (by rw [superB_length]; decide)
noncomputable def imgE (s : Int × Int × Int) (bare : Bool) (W U : List (Int × BitVec 64)) : List UInt8 := if bare then undoI (wordsI (zs (512 * s.1.toNat)) W) U else supR (undoI (wordsI (zs (512 * s.1.toNat)) W) U) (supLn s) 64
theorem imgE_len {s : Int × Int × Int} (h : GoodSup s.1 s.2.1 s.2.2) (bare : Bool) (W U : List (Int × BitVec 64)) : (imgE s bare W U).length = 512 * s.1.toNat := by
  unfold GoodSup at h
  have e : (undoI (wordsI (zs (512 * s.1.toNat)) W) U).length = 512 * s.1.toNat := by rw [undoI_len (by rw [wordsI_len, zs_length]; omega), wordsI_len, zs_length]
  unfold imgE
  split
  · exact e
  · rw [supR_len, e]
theorem fit_ex (p i c : Int) : ∃ A B C D e : Int, fitV p i c = .tuple #[.agg #[.int .i64 A, .int .i64 B, .int .i64 C, .int .i64 D], .int .i64 e] ∧ ((e = 0 ∧ GoodSup p i c ∧ A = p ∧ B = i ∧ C = c ∧ D = 4 + i / 8) ∨ (e ≠ 0 ∧ ¬ GoodSup p i c)) := by
  by_cases h : GoodSup p i c
  · exact ⟨_, _, _, _, _, fit_yes h, .inl ⟨rfl, h, rfl, rfl, rfl, rfl⟩⟩
  · exact ⟨_, _, _, _, _, fit_no h, .inr ⟨by decide, h⟩⟩
theorem lay_r (v : Value) (l : List UInt8) (a : Int) (x : BitVec 64) (w : World) (hl : l.length ≤ 1000000) (hr : (brow 5 v l).holds w) :
    Upd Tryz.prog 34 [v, .int .i64 a, b64 x] (brow 5 v l) (.tuple #[]) (brow 5 v (layI l a x)) w := by
 refine enter (feet [brow 5 v l]) [brow 5 v l] Tryz.func34 rfl Tryz.ntmps34 rfl (Rep.one hr) ?_
 simp only [envOf]
 refine At.seq (tR (At.weaken [(0, _), (1, _), (2, _)] (Sub.cons rfl (Sub.cons rfl (Sub.cons rfl Sub.nil))) ?_))
 refine At.boolMeet 9 15 (decide (a < 0 ∨ (l.length : Int) - 8 < a)) ?_ ?_
 ·simp only [List.take_succ_cons, List.take_zero]
  refine tM rfl rfl (tV (Val.bin rfl rfl rfl) rfl (tM rfl rfl ?_))
  refine At.split (t := 9) rfl (fun h1 => ?_) (fun h1 => ?_)
  ·try simp only [hasB, isSizeB, sB] at h1
   refine At.no rfl rfl rfl rfl (At.no rfl rfl rfl rfl (At.no rfl rfl rfl rfl (At.no rfl rfl rfl rfl (At.no rfl rfl rfl rfl (tV (Val.pickT rfl rfl) rfl (At.nil ?_))))))
   exact At.boolEnd rfl (by apply Bool.eq_iff_iff.2; (simp only [decide_eq_true_eq, Bool.false_eq_true, false_iff, true_iff, iff_true, iff_false, gt_iff_lt, ge_iff_le, beq_iff_eq, bne_iff_ne, ne_eq]) <;> omega) (by repeat (first | exact Sub.nil | refine Sub.cons rfl ?_))
  ·try simp only [hasB, isSizeB, sB] at h1
   refine At.yes rfl rfl (tM rfl rfl (At.yes rfl rfl (tM rfl rfl (At.yes rfl rfl (tV (Val.lenRow (i := 0) Tryz.underlying29 rfl rfl) rfl (At.yes rfl rfl ?_))))))
   first | refine tV (Val.subI rfl rfl (by omega) (by omega)) rfl ?_ | refine tV (Val.bin rfl rfl rfl) rfl ?_
   refine At.yes rfl rfl (tV (Val.bin rfl rfl rfl) rfl (tV (Val.pickF rfl rfl) rfl (At.nil ?_)))
   exact At.boolEnd rfl (by apply Bool.eq_iff_iff.2; (simp only [decide_eq_true_eq, Bool.false_eq_true, false_iff, true_iff, iff_true, iff_false, gt_iff_lt, ge_iff_le, beq_iff_eq, bne_iff_ne, ne_eq]) <;> omega) (by repeat (first | exact Sub.nil | refine Sub.cons rfl ?_))
 ·simp only [List.drop_succ_cons, List.drop_zero]
  refine tE ?_
  refine At.cond rfl (fun h2 => ?_) (fun h2 => ?_)
  ·try simp only [hasB, isSizeB, sB] at h2
   rw [layI_no h2]
   refine At.retC (At.thenR (At.ret0 (.inl rfl) rfl rfl  (fun w hw => ?_)))
   exact ⟨rfl, hw⟩
  ·try simp only [hasB, isSizeB, sB] at h2
   have hn := h2
   rw [layI_yes h2]
   obtain ⟨o, ho⟩ : ∃ o : Nat, a = (o : Int) := ⟨a.toNat, by omega⟩
   subst ho
   rw [Int.toNat_natCast]
   refine At.skipC (At.thenN (tR (tA rfl rfl (tE (At.block ?_)))))
   skip
   refine At.loop (σ := Nat) (fun k => k ≤ 8) (fun k => [(0, v), (1, .int .i64 (o : Int)), (2, b64 x), (6, .int .i64 (k : Int))]) (fun k => [brow 5 v (putK l o x k)]) (fun k => 8 - k) 0 (Nat.zero_le _) (Sub.cons rfl (Sub.cons rfl (Sub.cons rfl (Sub.cons rfl Sub.nil)))) (by rw [putK_zero]) ?_
   intro k hs
   refine At.seq (tR (tM rfl rfl (tV (Val.bin rfl rfl rfl) rfl (tE ?_))))
   refine At.cond rfl (fun h3 => ?_) (fun h3 => ?_)
   ·try simp only [hasB, isSizeB, sB] at h3
    have hk : k < 8 := by omega
    refine At.skipC (At.thenN (At.seq (At.block (At.region (tM rfl rfl (tM rfl rfl (tM rfl rfl ?_)))))))
    first | refine tV (Val.addI rfl rfl (by omega) (by omega)) rfl ?_ | refine tV (Val.bin rfl rfl rfl) rfl ?_
    refine tM rfl rfl (tM rfl rfl ?_)
    first | refine tV (Val.mulI rfl rfl (by omega) (by omega)) rfl ?_ | refine tV (Val.bin rfl rfl rfl) rfl ?_
    first | refine tV (Val.toU Tryz.underlying3 Tryz.underlying131 rfl (by omega) (by omega)) rfl ?_ | refine tV (Val.conv Tryz.underlying3 Tryz.underlying131 rfl) rfl ?_
    refine tV (Val.shr rfl rfl (by omega)) rfl ?_
    rw [shr_byte x hk]
    refine tV (Val.toB Tryz.underlying43 Tryz.underlying5 rfl (Int.natCast_nonneg _)) rfl ?_
    rw [Int.toNat_natCast]
    have hpl := putK_length (l := l) (o := o) (k := k) x (by omega) (by omega)
    refine tV (Val.indexRow (i := 0) (o + k) (by omega) Tryz.underlying29 Tryz.sizeOf5 rfl rfl rfl (by omega) (by rw [hpl]; omega)) rfl (At.storeRowB (i := 0) Tryz.sizeOf5 rfl rfl rfl (by omega) ?_)
    simp only [sc0, scS]
    rw [putK_step x (by omega) hk]
    refine At.nil (At.blkN (At.thenN (At.region (tM rfl rfl ?_))))
    first | refine tV (Val.addI rfl rfl (by omega) (by omega)) rfl ?_ | refine tV (Val.bin rfl rfl rfl) rfl ?_
    refine tA rfl rfl (tE ?_)
    exact At.again (k + 1) (show k + 1 ≤ 8 by omega) (by omega) (Sub.cons rfl (Sub.cons rfl (Sub.cons rfl (Sub.cons (congrArg (fun z => some (Value.int IntKind.i64 z)) (by omega)) Sub.nil)))) (List.Perm.refl _)
   ·try simp only [hasB, isSizeB, sB] at h3
    obtain rfl : k = 8 := by omega
    refine At.exitC (At.thenX (At.thenX (At.blkX (At.ret0 (.inr rfl) rfl rfl  (fun w hw => ?_)))))
    exact ⟨rfl, hw⟩
end Go.Proofs.YtfchinibjhcejaaGreatDoor
namespace Go.Proofs.YtfchinibjhcejaaGreatDoor
open Go Go.Wk
end Go.Proofs.YtfchinibjhcejaaGreatDoor
namespace Go.Proofs.YtfchinibjhcejaaGreatDoor
open Go Go.Wk
def mkC (vs : List (BitVec 64)) : List Wd := vs.map fun v => ⟨v, [], 0⟩
theorem mkC_length (vs : List (BitVec 64)) : (mkC vs).length = vs.length := List.length_map ..
theorem mkC_at {vs : List (BitVec 64)} {j : Nat} {v : BitVec 64} (h : vs[j]? = some v) : (mkC vs)[j]? = some ⟨v, [], 0⟩ := by unfold mkC; rw [List.getElem?_map, h]; rfl
theorem mkC_view (vs : List (BitVec 64)) : viewWs (mkC vs) = vs := by
  unfold viewWs mkC; rw [List.map_map]
  conv => rhs; rw [← List.map_id vs]
  exact List.map_congr_left fun v _ => rfl
theorem wbytes_ext {xs ys : List (BitVec 64)} {j r : Nat} (h : xs[j]? = ys[j]?) (hr : r < 8) : (wbytes xs)[8 * j + r]? = (wbytes ys)[8 * j + r]? := by
  cases hx : xs[j]? with
  | none =>
    have h1 := List.getElem?_eq_none_iff.1 hx
    have h2 := List.getElem?_eq_none_iff.1 (h.symm.trans hx)
    rw [List.getElem?_eq_none (by rw [wbytes_length]; omega), List.getElem?_eq_none (by rw [wbytes_length]; omega)]
  | some x =>
    have e := (wbytes_take hx).trans (wbytes_take (h.symm.trans hx)).symm
    have := congrArg (fun l : List UInt8 => l[r]?) e
    simp only [List.getElem?_take, List.getElem?_drop] at this
    rwa [if_pos hr, if_pos hr] at this
def setP (vs : List (BitVec 64)) (P : List (Nat × BitVec 64)) : List (BitVec 64) := P.foldl (fun v c => v.set c.1 c.2) vs
theorem setP_len : ∀ (P : List (Nat × BitVec 64)) (vs : List (BitVec 64)), (setP vs P).length = vs.length
  | [], _ => rfl
  | c :: P, vs => (setP_len P (vs.set c.1 c.2)).trans (List.length_set ..)
theorem setP_out : ∀ (P : List (Nat × BitVec 64)) (vs : List (BitVec 64)) {j : Nat}, j ∉ P.map Prod.fst → (setP vs P)[j]? = vs[j]?
  | [], _, _, _ => rfl
  | c :: P, vs, j, h => by
    rw [List.map_cons, List.mem_cons, not_or] at h
    show (setP (vs.set c.1 c.2) P)[j]? = _
    rw [setP_out P _ h.2, List.getElem?_set_ne (Ne.symm h.1)]
theorem setP_in : ∀ (P : List (Nat × BitVec 64)) (vs : List (BitVec 64)) {j : Nat} {x : BitVec 64}, (P.map Prod.fst).Nodup → (j, x) ∈ P → j < vs.length → (setP vs P)[j]? = some x
  | c :: P, vs, j, x, hn, hm, hj => by
    rw [List.map_cons, List.nodup_cons] at hn
    show (setP (vs.set c.1 c.2) P)[j]? = _
    rcases List.mem_cons.1 hm with e | hm
    · subst e
      rw [setP_out P _ hn.1, List.getElem?_set_self hj]
    · exact setP_in P _ hn.2 hm (by rw [List.length_set]; exact hj)
def Inv (vs : List (BitVec 64)) (P : List (Nat × BitVec 64)) (ws : List Wd) : Prop := ∀ j w, ws[j]? = some w → (vs[j]? = some w.old ∨ (j, w.old) ∈ P) ∧ ∀ u ∈ w.news, (j, u) ∈ P
theorem Inv.mk (vs : List (BitVec 64)) (P : List (Nat × BitVec 64)) : Inv vs P (mkC vs) := fun j w h => by
  unfold mkC at h
  rw [List.getElem?_map, Option.map_eq_some_iff] at h
  obtain ⟨v, hv, rfl⟩ := h
  exact ⟨.inl hv, fun u hu => by cases hu⟩
abbrev Ph := List (Nat × BitVec 64) × List Nat
def phA (p : Ph) : List Ac := p.1.map (fun c => Ac.st c.1 c.2) ++ (p.2.map Ac.fl ++ [.fe])
structure PhOk (n : Nat) (p : Ph) : Prop where
  nd : (p.1.map Prod.fst).Nodup
  lt : ∀ c ∈ p.1, c.1 < n
  ln : ∀ c ∈ p.1, c.1 / 8 ∈ p.2
  fl : ∀ l ∈ p.2, 8 * l < n
theorem PhOk.ac {n : Nat} {p : Ph} (h : PhOk n p) : ∀ a ∈ phA p, AcOk n a := by
  intro a ha
  unfold phA at ha
  rcases List.mem_append.1 ha with ha | ha
  · obtain ⟨c, hc, rfl⟩ := List.mem_map.1 ha; exact h.lt c hc
  rcases List.mem_append.1 ha with ha | ha
  · obtain ⟨l, hl, rfl⟩ := List.mem_map.1 ha; exact h.fl l hl
  · rw [List.mem_singleton.1 ha]; trivial
theorem stP_out : ∀ (P : List (Nat × BitVec 64)) (σ : Ds) {j : Nat} {w : Wd}, σ.armed = false → j ∉ P.map Prod.fst → σ.ws[j]? = some w → (actsE σ (P.map fun c => Ac.st c.1 c.2)).2.ws[j]? = some w
  | [], σ, j, w, _, _, h => h
  | c :: P, σ, j, w, ha, hj, h => by
    rw [List.map_cons, List.mem_cons, not_or] at hj
    rw [List.map_cons, actsE_live (dead_of ha)]
    have har : (storeD σ c.1 c.2).armed = false := by unfold storeD; split <;> exact ha
    refine stP_out P _ har hj.2 ?_
    show (storeD σ c.1 c.2).ws[j]? = _
    unfold storeD
    cases hk : σ.ws[c.1]? with
    | none => exact h
    | some wk => exact setD_at (σ := stepD σ) h (Ne.symm hj.1)
theorem stP_in : ∀ (P : List (Nat × BitVec 64)) (σ : Ds) {j : Nat} {x : BitVec 64} {w : Wd}, σ.armed = false → (P.map Prod.fst).Nodup → (j, x) ∈ P → σ.ws[j]? = some w → (actsE σ (P.map fun c => Ac.st c.1 c.2)).2.ws[j]? = some (pushW w x)
  | c :: P, σ, j, x, w, ha, hn, hm, h => by
    rw [List.map_cons, List.nodup_cons] at hn
    rw [List.map_cons, actsE_live (dead_of ha)]
    have har : (storeD σ c.1 c.2).armed = false := by unfold storeD; split <;> exact ha
    rcases List.mem_cons.1 hm with e | hm
    · subst e
      refine stP_out P _ har hn.1 ?_
      show (storeD σ j x).ws[j]? = _
      rw [storeD_some h]; exact setD_self (σ := stepD σ) h
    · have hne : c.1 ≠ j := fun e => hn.1 (e ▸ List.mem_map.2 ⟨(j, x), hm, rfl⟩)
      refine stP_in P _ har hn.2 hm ?_
      show (storeD σ c.1 c.2).ws[j]? = _
      unfold storeD
      cases hk : σ.ws[c.1]? with
      | none => exact h
      | some wk => exact setD_at (σ := stepD σ) h hne
theorem flF_at : ∀ (F : List Nat) (τ : Ds) {j : Nat} {w : Wd}, τ.armed = false → τ.ws[j]? = some w → ∃ m, (actsE τ (F.map Ac.fl)).2.ws[j]? = some { w with mark := m } ∧ (m = w.mark ∨ m = w.news.length) ∧ (j / 8 ∈ F → m = w.news.length)
  | [], τ, j, w, _, h => ⟨w.mark, h, .inl rfl, fun h => by cases h⟩
  | l :: F, τ, j, w, ha, h => by
    rw [List.map_cons, actsE_live (dead_of ha)]
    obtain ⟨m, h1, h2, h3⟩ := flushK_at (σ := stepD τ) (f := 8 * l) h 8
    obtain ⟨_, r2, _⟩ := flushK_rest (stepD τ) (8 * l) 8
    obtain ⟨m', g1, g2, g3⟩ := flF_at F (lineD τ l) (r2.trans ha) h1
    refine ⟨m', g1, ?_, fun hm => ?_⟩
    · rcases g2 with g2 | g2
      · by_cases hin : 8 * l ≤ j ∧ j < 8 * l + 8
        · exact .inr (g2.trans (h2 hin.1 hin.2))
        · exact .inl (g2.trans (h3 hin))
      · exact .inr g2
    · by_cases e : j / 8 = l
      · have hm' : m = w.news.length := h2 (by omega) (by omega)
        rcases g2 with g2 | g2
        · exact g2.trans hm'
        · exact g2
      · rcases List.mem_cons.1 hm with e' | hm
        · exact absurd e' e
        · exact g3 hm
theorem phase_full {σ : Ds} {vs : List (BitVec 64)} {p : Ph} (hws : σ.ws = mkC vs) (ha : σ.armed = false) (ok : PhOk vs.length p) :
    (actsE σ (phA p)).1 = 0 ∧ (actsE σ (phA p)).2.ws = mkC (setP vs p.1) ∧ (actsE σ (phA p)).2.armed = false ∧ (actsE σ (phA p)).2.steps = σ.steps + (phA p).length := by
  have hl : σ.ws.length = vs.length := by rw [hws, mkC_length]
  have okA : ∀ a ∈ phA p, AcOk σ.ws.length a := by rw [hl]; exact ok.ac
  obtain ⟨_, _, r3, r4⟩ := actsE_rest _ σ okA
  obtain ⟨r4, r5⟩ := r4 ha
  refine ⟨r4, ?_, r3.trans ha, r5⟩
  have okS : ∀ a ∈ p.1.map (fun c => Ac.st c.1 c.2), AcOk σ.ws.length a := fun a h => okA a (List.mem_append_left _ h)
  obtain ⟨s1, s2, s3, s4⟩ := actsE_rest _ σ okS
  obtain ⟨s4, _⟩ := s4 ha
  have hout := fun (j : Nat) (w : Wd) => stP_out p.1 σ (j := j) (w := w) ha
  have hin := fun (j : Nat) (x : BitVec 64) (w : Wd) => stP_in p.1 σ (j := j) (x := x) (w := w) ha ok.nd
  unfold phA
  rw [actsE_go s4]
  generalize (actsE σ (p.1.map fun c => Ac.st c.1 c.2)).2 = τ at *
  have ht : τ.armed = false := s3.trans ha
  have okF : ∀ a ∈ p.2.map Ac.fl, AcOk τ.ws.length a := fun a h => by rw [s1]; exact okA a (List.mem_append_right _ (List.mem_append_left _ h))
  obtain ⟨q1, q2, q3, q4⟩ := actsE_rest _ τ okF
  obtain ⟨q4, _⟩ := q4 ht
  have hfl := fun (j : Nat) (w : Wd) => flF_at p.2 τ (j := j) (w := w) ht
  rw [actsE_go q4]
  generalize (actsE τ (p.2.map Ac.fl)).2 = υ at *
  rw [actsE_live (dead_of (q3.trans ht))]
  show (fenceD (stepD υ)).ws = _
  apply List.ext_getElem?
  intro j
  rcases Nat.lt_or_ge j vs.length with hj | hj
  · have hv : vs[j]? = some (vs[j]'hj) := List.getElem?_eq_getElem hj
    have h0 : σ.ws[j]? = some ⟨vs[j]'hj, [], 0⟩ := by rw [hws]; exact mkC_at hv
    by_cases hc : j ∈ p.1.map Prod.fst
    · obtain ⟨⟨j', x⟩, hm, e⟩ := List.mem_map.1 hc
      obtain rfl : j' = j := e
      rw [mkC_at (setP_in p.1 vs ok.nd hm hj)]
      obtain ⟨m, g1, _, g3⟩ := hfl j' _ (hin j' x _ hm h0)
      rw [fenceD_at (σ := stepD υ) g1]
      have hm1 : m = 1 := g3 (ok.ln _ hm)
      subst hm1
      exact congrArg some (by simp [fenceW, pushW])
    · rw [mkC_at ((setP_out p.1 vs hc).trans hv)]
      obtain ⟨m, g1, g2, _⟩ := hfl j _ (hout j _ hc h0)
      have hm : m = 0 := by rcases g2 with g | g <;> exact g
      subst hm
      rw [fenceD_at (σ := stepD υ) g1]
      exact congrArg some (if_pos rfl)
  · rw [List.getElem?_eq_none, List.getElem?_eq_none (by rw [mkC_length, setP_len]; exact hj)]
    have : (fenceD (stepD υ)).ws.length = υ.ws.length := by simp [fenceD, stepD]
    omega
def phsA (l : List Ph) : List Ac := (l.map phA).flatten
def setPs (vs : List (BitVec 64)) (l : List Ph) : List (BitVec 64) := l.foldl (fun v p => setP v p.1) vs
theorem phs_full : ∀ (l : List Ph) {σ : Ds} {vs : List (BitVec 64)}, σ.ws = mkC vs → σ.armed = false → (∀ p ∈ l, PhOk vs.length p) → (actsE σ (phsA l)).1 = 0 ∧ (actsE σ (phsA l)).2.ws = mkC (setPs vs l) ∧ (actsE σ (phsA l)).2.armed = false ∧ (actsE σ (phsA l)).2.steps = σ.steps + (phsA l).length
  | [], σ, vs, h, ha, _ => ⟨rfl, h, ha, rfl⟩
  | p :: l, σ, vs, h, ha, ok => by
    obtain ⟨a1, a2, a3, a4⟩ := phase_full h ha (ok p (List.mem_cons_self ..))
    obtain ⟨b1, b2, b3, b4⟩ := phs_full l (σ := (actsE σ (phA p)).2) a2 a3 (fun q hq => by rw [setP_len]; exact ok q (List.mem_cons_of_mem _ hq))
    have e : phsA (p :: l) = phA p ++ phsA l := rfl
    rw [e, actsE_go a1]
    exact ⟨b1, b2, b3, by rw [b4, a4, List.length_append]; omega⟩
end Go.Proofs.YtfchinibjhcejaaGreatDoor
