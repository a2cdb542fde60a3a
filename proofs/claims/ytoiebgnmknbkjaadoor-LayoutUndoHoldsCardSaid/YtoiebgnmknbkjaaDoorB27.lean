/- What a line of undos says. -/
import Derived.Test.YtoiebgnmknbkjaaDoorB26
import Derived.Test.YtoiebgnmknbkjaaDoorB6
import Derived.Test.YtoiebgnmknbkjaaDoorPa
set_option linter.unusedVariables false
set_option linter.unusedSimpArgs false
namespace Go.Proofs.YtoiebgnmknbkjaaDoor
open Go Go.Wk

def lo (x : BitVec 64) : Nat := (x.setWidth 32).toNat
theorem lo_lt (x : BitVec 64) : lo x < 4294967296 := (x.setWidth 32).isLt
def Sl (a : Int) (x : BitVec 64) : Prop := sealW (BitVec.ofInt 64 a) (x.setWidth 32) = x
instance (a : Int) (x : BitVec 64) : Decidable (Sl a x) := by unfold Sl; infer_instance
theorem num_b64 (l : List UInt8) (a : Nat) : (Value.int .u64 ((num l a 8 : Nat) : Int)) = b64 (BitVec.ofNat 64 (num l a 8)) := by
  unfold b64; rw [BitVec.toNat_ofNat, Nat.mod_eq_of_lt (by have := num_lt (l := l) a 8; simpa using this)]
theorem ofNat_num (l : List UInt8) (a : Nat) : (BitVec.ofNat 64 (num l a 8)).toNat = num l a 8 := by
  rw [BitVec.toNat_ofNat, Nat.mod_eq_of_lt (by have := num_lt (l := l) a 8; simpa using this)]
theorem ofInt_num (l : List UInt8) (a : Nat) : (BitVec.ofInt 64 ((num l a 8 : Nat) : Int)).toNat = num l a 8 := by
  rw [show BitVec.ofInt 64 ((num l a 8 : Nat) : Int) = BitVec.ofNat 64 (num l a 8) from by simp, ofNat_num]
def wordA (l : List UInt8) (a : Nat) : BitVec 64 := BitVec.ofNat 64 (num l a 8)
theorem num_wordA (l : List UInt8) (a : Nat) : (Value.int .u64 ((num l a 8 : Nat) : Int)) = b64 (wordA l a) := num_b64 l a
def unN (l : List UInt8) : Nat := lo (wordA l 0)
theorem unN_lt (l : List UInt8) : unN l < 4294967296 := lo_lt _
def recs (l : List UInt8) (k : Nat) : List (Int × BitVec 64) := (List.range k).map fun j => (((num l (64 + 16 * j) 8 : Nat) : Int), wordA l (64 + 16 * j + 8))
theorem recs_succ (l : List UInt8) (k : Nat) : recs l (k + 1) = recs l k ++ [(((num l (64 + 16 * k) 8 : Nat) : Int), wordA l (64 + 16 * k + 8))] := by
  unfold recs; rw [List.range_succ, List.map_append]; rfl
theorem recs_length (l : List UInt8) (k : Nat) : (recs l k).length = k := by unfold recs; simp
theorem recs_get (l : List UInt8) {k n : Nat} (h : k < n) : (recs l n)[k]? = some (((num l (64 + 16 * k) 8 : Nat) : Int), wordA l (64 + 16 * k + 8)) := by
  unfold recs; simp [List.getElem?_map, List.getElem?_range h]
def seg (l : List UInt8) (n : Nat) : List UInt8 := (l.drop 64).take (16 * n)
theorem seg_cut (l : List UInt8) (n : Nat) : (l.drop 64).take (64 + 16 * n - 64) = seg l n := by unfold seg; rw [show 64 + 16 * n - 64 = 16 * n by omega]
theorem take_two {l : List UInt8} (a n m : Nat) : (l.drop a).take (n + m) = (l.drop a).take n ++ (l.drop (a + n)).take m := by
  rw [List.take_add, List.drop_drop]
theorem recB_recs {l : List UInt8} {n : Nat} (h : 64 + 16 * n ≤ l.length) : recB (recs l n) = seg l n := by
  induction n with
  | zero => simp [recs, recB, undoWs, bytesW, seg]
  | succ n ih =>
    rw [recs_succ, recB_snoc, ih (by omega), ofInt_num, show (wordA l (64 + 16 * n + 8)).toNat = num l (64 + 16 * n + 8) 8 from ofNat_num l _, le_num (by omega), le_num (by omega)]
    unfold seg
    rw [show 16 * (n + 1) = 16 * n + (8 + 8) by omega, take_two 64 (16 * n) (8 + 8), take_two (64 + 16 * n) 8 8, List.append_assoc]
def OkUn (l : List UInt8) : Prop := l.length = 512 ∧ Sl 512 (wordA l 0) ∧ (unN l = 0 ∨ (unN l ≤ 8 ∧ sealW (BitVec.ofInt 64 520) (sumOn 0 (seg l (unN l))) = wordA l 8 ∧ GoodUn (recs l (unN l))))
noncomputable instance (l : List UInt8) : Decidable (OkUn l) := Classical.propDecidable _
noncomputable def openUnL (l : List UInt8) : List (Int × BitVec 64) := if OkUn l then recs l (unN l) else []
noncomputable def openUnE (l : List UInt8) : Int := if OkUn l then 0 else 35
theorem openUnL_no {l : List UInt8} (h : ¬ OkUn l) : openUnL l = [] := if_neg h
theorem openUnE_no {l : List UInt8} (h : ¬ OkUn l) : openUnE l = 35 := if_neg h
theorem openUnL_yes {l : List UInt8} (h : OkUn l) : openUnL l = recs l (unN l) := if_pos h
theorem openUnE_yes {l : List UInt8} (h : OkUn l) : openUnE l = 0 := if_pos h
theorem openUnL_0 {l : List UInt8} (h : OkUn l) (h0 : unN l = 0) : openUnL l = [] := by rw [openUnL_yes h, h0]; rfl
theorem OkUn.two {l : List UInt8} (h : OkUn l) (h0 : ¬ unN l = 0) : unN l ≤ 8 ∧ sealW (BitVec.ofInt 64 520) (sumOn 0 (seg l (unN l))) = wordA l 8 ∧ GoodUn (recs l (unN l)) := h.2.2.resolve_left h0
theorem good_at {L : List (Int × BitVec 64)} {k : Nat} {c : Int × BitVec 64} (g : GoodUn L) (h : L[k]? = some c) : c.1 ≤ 18431 := (g.2.2 k (List.getElem?_eq_some_iff.1 h).1 c h).1.2.1
theorem OkUn.at {l : List UInt8} (h : OkUn l) {k : Nat} (hk : k < unN l) : num l (64 + 16 * k) 8 ≤ 18431 := by
  have := good_at (h.two (by omega)).2.2 (recs_get l hk)
  simp only at this; omega
theorem seal_lo {a : Int} {s : BitVec 32} {x : BitVec 64} (h : sealW (BitVec.ofInt 64 a) s = x) : Sl a x ∧ lo x = s.toNat := by
  subst h; exact ⟨by unfold Sl; rw [seal_low], by unfold lo; rw [seal_low]⟩
theorem seal_of {a : Int} {s : BitVec 32} {x : BitVec 64} (h : Sl a x) (e : s.toNat = lo x) : sealW (BitVec.ofInt 64 a) s = x := by
  have : s = x.setWidth 32 := BitVec.eq_of_toNat_eq e
  rw [this]; exact h
theorem recs_bd {l : List UInt8} {n : Nat} (h : ∀ j, j < n → num l (64 + 16 * j) 8 < 4294967296) : ∀ c ∈ recs l n, -9223372036854775808 ≤ c.1 ∧ c.1 ≤ 9223372036854775807 := fun c hc => by
  unfold recs at hc
  obtain ⟨j, hj, rfl⟩ := List.mem_map.1 hc
  have := h j (List.mem_range.1 hj)
  simp only; omega
theorem undoB_recs {l : List UInt8} (hl : l.length = 512) (hn : unN l ≤ 8) (hs : Sl 512 (wordA l 0)) : undoB (recs l (unN l)) = (l.take 8 ++ le 8 (sealW (BitVec.ofInt 64 520) (sumOn 0 (seg l (unN l)))).toNat) ++ zs 48 ++ seg l (unN l) := by
  unfold undoB headB
  rw [recB_recs (by omega), recs_length]
  have e : BitVec.ofInt 32 ((unN l : Nat) : Int) = (wordA l 0).setWidth 32 := by
    apply BitVec.eq_of_toNat_eq
    show _ = unN l
    have := unN_lt l
    simp [BitVec.toNat_ofInt]; omega
  rw [e, show sealW (BitVec.ofInt 64 512) ((wordA l 0).setWidth 32) = wordA l 0 from hs, show (wordA l 0).toNat = num l 0 8 from ofNat_num l 0, le_num (by omega)]
  rfl
theorem pack_same {l : List UInt8} (h : OkUn l) (h0 : ¬ unN l = 0) {i : Nat} (hi : i < 64 + 16 * unN l) (hc : i < 16 ∨ 64 ≤ i) : (packB (recs l (unN l)))[i]? = l[i]? := by
  obtain ⟨hn, hse, hg⟩ := h.two h0
  have hl := h.1
  rw [packB_T hg, undoB_recs hl hn h.2.1, hse, show (wordA l 8).toNat = num l 8 8 from ofNat_num l 8, le_num (by omega)]
  rw [show l.take 8 ++ (l.drop 8).take 8 = l.take 16 from by have := take_two (l := l) 0 8 8; simpa using this.symm]
  have h16 : (l.take 16).length = 16 := by rw [List.length_take]; omega
  rcases hc with hc | hc
  · rw [List.append_assoc, List.getElem?_append_left (by omega), List.getElem?_take, if_pos hc]
  · rw [List.getElem?_append_right (by rw [List.length_append, h16, zs_length]; exact hc), List.length_append, h16, zs_length]
    unfold seg
    rw [List.getElem?_take, if_pos (by omega), List.getElem?_drop, show 64 + (i - (16 + 48)) = i by omega]
theorem num_atU {a b m : List UInt8} {n x p : Nat} (e : m = a ++ (le n x ++ b)) (ha : a.length = p) (hx : x < 256 ^ n) : num m p n = x := by
  subst e; unfold num; rw [← ha, List.drop_left, List.take_left' (le_length n x), fromLe_le n x hx]
theorem pack_seal {l : List UInt8} (hl : l.length = 512) (hs : Sl 512 (wordA l 0)) (hn : unN l ≤ 8) (hg : GoodUn (recs l (unN l))) (h : ∀ i, i < 64 + 16 * unN l → (i < 16 ∨ 64 ≤ i) → (packB (recs l (unN l)))[i]? = l[i]?) : sealW (BitVec.ofInt 64 520) (sumOn 0 (seg l (unN l))) = wordA l 8 := by
  rw [packB_T hg, undoB_recs hl hn hs] at h
  have h8 : (l.take 8).length = 8 := by rw [List.length_take]; omega
  have e1 : num (l.take 8 ++ le 8 (sealW (BitVec.ofInt 64 520) (sumOn 0 (seg l (unN l)))).toNat ++ zs 48 ++ seg l (unN l)) 8 8 = (sealW (BitVec.ofInt 64 520) (sumOn 0 (seg l (unN l)))).toNat :=
    num_atU (a := l.take 8) (b := zs 48 ++ seg l (unN l)) (by simp only [List.append_assoc]) h8 (by have := (sealW (BitVec.ofInt 64 520) (sumOn 0 (seg l (unN l)))).isLt; simpa using this)
  have e2 : num (l.take 8 ++ le 8 (sealW (BitVec.ofInt 64 520) (sumOn 0 (seg l (unN l)))).toNat ++ zs 48 ++ seg l (unN l)) 8 8 = num l 8 8 := by
    unfold num
    congr 1
    apply List.ext_getElem?
    intro i
    rw [List.getElem?_take, List.getElem?_take]
    split
    · rw [List.getElem?_drop, List.getElem?_drop]; exact h _ (by omega) (.inl (by omega))
    · rfl
  apply BitVec.eq_of_toNat_eq
  rw [← e1, e2]; exact (ofNat_num l 8).symm
theorem cmp_eq {p l : List UInt8} {k : Nat} {q r : UInt8} (h1 : p[(k : Int).toNat]? = some q) (h2 : l[(k : Int).toNat]? = some r) (e : (q.toNat : Int) = r.toNat) : p[k]? = l[k]? := by
  rw [Int.toNat_natCast] at h1 h2; rw [h1, h2, UInt8.toNat_inj.1 (show q.toNat = r.toNat by omega)]
theorem cmp_ne {p l : List UInt8} {k : Nat} {q r : UInt8} (h1 : p[(k : Int).toNat]? = some q) (h2 : l[(k : Int).toNat]? = some r) (e : ¬ (q.toNat : Int) = r.toNat) : ¬ p[k]? = l[k]? := fun h => by
  rw [Int.toNat_natCast] at h1 h2; rw [h1, h2] at h; obtain rfl := Option.some.inj h; exact e rfl

theorem openUn_n (v : Value) (l : List UInt8) (w : World) (ht : Tab w) (hv : RdB w v l) (hlen : l.length ≤ 140737488355328) :
    NewRowT Tryd.prog 63 [v] (fun v => .tuple #[v, .int .i64 (openUnE l)]) 111 2 (openUnL l).length (prC (openUnL l)) w := by
  refine enterD0 Tryd.func63 rfl Tryd.ntmps63 rfl ?_
  simp only [envOf]
  refine At.seq ?_
  refine At.region ?_
  refine At.alloc Tryd.zeroValue102 rfl rfl (fun b1 => ?_)
  refine At.alloc Tryd.zeroValue26 rfl rfl (fun b2 => ?_)
  refine At.nil ?_
  refine At.thenN ?_
  refine At.seq ?_
  refine At.region ?_
  refine At.defer rfl ?_
  refine At.nil ?_
  refine At.thenN ?_
  refine At.seq ?_
  refine At.region ?_
  refine At.val (Val.move rfl) rfl rfl rfl ?_
  refine At.val (Val.lenRd hv Tryd.underlying54 rfl) rfl rfl rfl ?_
  refine At.val (Val.bin rfl rfl rfl) rfl rfl rfl ?_
  refine At.split (t := 10) rfl (fun h3 => ?_) (fun h3 => ?_)
  · skip
    try simp only [vN_T, vN_F, nmE_T, nmE_F, wI_T, wI_F, data_T, data_F, ino_T, ino_F, notT, notF, bneT, bneF, beqT, beqF, decT, decF] at h3
    have hl : l.length = 512 := by omega
    obtain ⟨L, o, c, rfl, hb, hlc, hL⟩ := RdB.some hv (by omega)
    refine At.callP (fun w hw => must_T _ w) Tryd.call84 rfl rfl ?_
    refine At.nil ?_
    refine At.thenN ?_
    refine At.seq ?_
    refine At.region ?_
    refine At.val (Val.move rfl) rfl rfl rfl ?_
    refine At.val (Val.build (fun a ha => by simp only [List.map_toArray, List.map_cons, List.map_nil, ha.eval (x := (.tmp 12)) rfl] <;> rfl) (bld_139_0 _ _ _ )) rfl rfl rfl ?_
    refine At.alloc Tryd.zeroValue139 rfl rfl (fun b4 => ?_)
    refine At.storeAll (i := 0) Tryd.sizeOf139 rfl rfl rfl (by simp [Value.oneCell']) rfl rfl ?_
    simp only [List.set_cons_zero, List.set_cons_succ]
    refine At.nil ?_
    rw [show ([Value.slice (some ⟨L, o, none⟩) l.length c, Value.int IntKind.i64 0] : List Value) = eyeC L o l.length c 0 from rfl]
    refine At.thenN ?_
    refine At.seq ?_
    refine At.region ?_
    refine At.call1 0 rfl (fun w hw hr => eyeNumber_p _ L o c 0 8 l w hr (hb.mod hw.mod) (hw.newBlk (i := 0) rfl hL) hlc (by omega) (by omega) (by decide)) Tryd.call108 rfl rfl ?_
    simp only [List.set_cons_zero, List.set_cons_succ]
    skip
    · skip
      rw [num_wordA l 0]
      by_cases hs0 : Sl 512 (wordA l 0)
      · skip
        refine At.callP (fun w hw => held_T 512 (wordA l 0) 35 w (ht.mod hw.mod) hs0) Tryd.call97 rfl rfl ?_
        refine At.val (Val.assign rfl) rfl rfl rfl ?_
        refine At.nil ?_
        rw [show ((wordA l 0).setWidth 32).toNat = unN l from rfl]
        refine At.thenN ?_
        refine At.seq ?_
        refine At.seq ?_
        refine At.region ?_
        refine At.val (Val.move rfl) rfl rfl rfl ?_
        refine At.val (Val.bin rfl rfl rfl) rfl rfl rfl ?_
        refine At.nil ?_
        refine At.thenN ?_
        refine At.cond rfl (fun h5 => ?_) (fun h5 => ?_)
        · skip
          try simp only [vN_T, vN_F, nmE_T, nmE_F, wI_T, wI_F, data_T, data_F, ino_T, ino_F, notT, notF, bneT, bneF, beqT, beqF, decT, decF] at h5
          have h0 : unN l = 0 := by omega
          have hok : OkUn l := ⟨hl, hs0, .inl h0⟩
          refine At.seq ?_
          refine At.region ?_
          refine At.store (i := 2) Tryd.sizeOf102 rfl rfl rfl rfl (by first | decide | simp) ?_
          simp only [List.set_cons_zero, List.set_cons_succ]
          refine At.store (i := 1) Tryd.sizeOf26 rfl rfl rfl rfl (by first | decide | simp) ?_
          simp only [List.set_cons_zero, List.set_cons_succ]
          refine At.nil ?_
          refine At.thenN ?_
          refine At.retC ?_
          refine At.thenR ?_
          refine At.leaveN (.inl rfl) rfl Tryd.call118 (fun w hw => caughtUndos_idle _ _ w) rfl (ResOf.one (i := 2) Tryd.isAgg102 rfl rfl rfl) (ResOf.one (i := 1) Tryd.isAgg26 rfl rfl rfl) (fun w hw => ?_)
          exact ⟨.slice none 0 0, by rw [openUnE_yes hok], by rw [openUnL_0 hok h0]; exact ((hw.drop (List.nil_sublist _)).f0).nilRow _ _⟩
        · skip
          try simp only [vN_T, vN_F, nmE_T, nmE_F, wI_T, wI_F, data_T, data_F, ino_T, ino_F, notT, notF, bneT, bneF, beqT, beqF, decT, decF] at h5
          have h0 : ¬ unN l = 0 := by omega
          refine At.skipC ?_
          refine At.thenN ?_
          refine At.seq ?_
          refine At.region ?_
          refine At.val (Val.move rfl) rfl rfl rfl ?_
          refine At.val (Val.bin rfl rfl rfl) rfl rfl rfl ?_
          refine At.split (t := 19) rfl (fun h6 => ?_) (fun h6 => ?_)
          · skip
            try simp only [vN_T, vN_F, nmE_T, nmE_F, wI_T, wI_F, data_T, data_F, ino_T, ino_F, notT, notF, bneT, bneF, beqT, beqF, decT, decF] at h6
            have hn8 : unN l ≤ 8 := by omega
            refine At.callP (fun w hw => must_T _ w) Tryd.call84 rfl rfl ?_
            refine At.nil ?_
            refine At.thenN ?_
            refine At.seq ?_
            refine At.region ?_
            refine At.call1 0 rfl (fun w hw hr => eyeNumber_p _ L o c (0 + 8) 8 l w hr (hb.mod hw.mod) (hw.newBlk (i := 0) rfl hL) hlc (by omega) (by omega) (by decide)) Tryd.call108 rfl rfl ?_
            simp only [List.set_cons_zero, List.set_cons_succ]
            skip
            · skip
              rw [show (0 : Nat) + 8 = 8 from rfl, num_wordA l 8]
              by_cases hs8 : Sl 520 (wordA l 8)
              · skip
                refine At.callP (fun w hw => held_T 520 (wordA l 8) 35 w (ht.mod hw.mod) hs8) Tryd.call97 rfl rfl ?_
                refine At.val (Val.assign rfl) rfl rfl rfl ?_
                refine At.nil ?_
                rw [show ((wordA l 8).setWidth 32).toNat = lo (wordA l 8) from rfl]
                refine At.thenN ?_
                refine At.seq ?_
                refine At.region ?_
                refine At.val (Val.field 1 rfl fo_139_1 rfl) rfl rfl rfl ?_
                refine At.store (i := 0) Tryd.sizeOf3 rfl rfl rfl rfl (by first | (simp; done) | (simp; omega)) ?_
                simp only [List.set_cons_zero, List.set_cons_succ]
                refine At.nil ?_
                rw [show ([Value.slice (some ⟨L, o, none⟩) l.length c, Value.int .i64 64] : List Value) = eyeC L o l.length c 64 from rfl]
                refine At.thenN ?_
                refine At.seq ?_
                have hsl := (sumOn 0 (seg l (unN l))).isLt
                refine At.region ?_
                refine At.val (Val.move rfl) rfl rfl rfl ?_
                refine At.val (Val.move rfl) rfl rfl rfl ?_
                first | refine At.val (Val.mulI rfl rfl (by omega) (by omega)) rfl rfl rfl ?_ | refine At.val (Val.bin rfl rfl rfl) rfl rfl rfl ?_
                first | refine At.val (Val.addI rfl rfl (by omega) (by omega)) rfl rfl rfl ?_ | refine At.val (Val.bin rfl rfl rfl) rfl rfl rfl ?_
                refine At.cutB (64) (64 + 16 * unN l) hv Tryd.underlying54 Tryd.sizeOf5 rfl ⟨_, _, rfl, by omega, by omega⟩ ⟨_, _, rfl, by omega, by omega⟩ (by omega) (by omega) rfl rfl (fun v7 hv8 => ?_)
                refine At.callP (fun w hw => (by have := sumRd_p v7 _ w (hv8.mod hw.mod) (ht.mod hw.mod) (by simp only [List.length_take, List.length_drop]; omega); rwa [seg_cut] at this)) Tryd.call115 rfl rfl ?_
                first | refine At.val (Val.toI Tryd.underlying48 Tryd.underlying3 rfl (by omega) (by omega)) rfl rfl rfl ?_ | refine At.val (Val.conv Tryd.underlying48 Tryd.underlying3 rfl) rfl rfl rfl ?_
                refine At.val (Val.move rfl) rfl rfl rfl ?_
                refine At.val (Val.bin rfl rfl rfl) rfl rfl rfl ?_
                refine At.split (t := 32) rfl (fun h9 => ?_) (fun h9 => ?_)
                · skip
                  try simp only [vN_T, vN_F, nmE_T, nmE_F, wI_T, wI_F, data_T, data_F, ino_T, ino_F, notT, notF, bneT, bneF, beqT, beqF, decT, decF] at h9
                  have hseal := seal_of hs8 (show (sumOn 0 (seg l (unN l))).toNat = lo (wordA l 8) by omega)
                  refine At.callP (fun w hw => must_T _ w) Tryd.call84 rfl rfl ?_
                  refine At.nil ?_
                  refine At.rowNilP 111 ?_
                  refine At.thenN ?_
                  refine At.seq ?_
                  refine At.seq ?_
                  refine At.region ?_
                  refine At.val (Val.move rfl) rfl rfl rfl ?_
                  refine At.val (Val.move rfl) rfl rfl rfl ?_
                  refine At.nil ?_
                  refine At.thenN ?_
                  refine At.block ?_
                  skip
                  refine At.loop (σ := Nat × Value) (fun s => s.1 ≤ unN l ∧ ∀ j, j < s.1 → num l (64 + 16 * j) 8 < 4294967296) (fun s => [(2, .pointer (some ⟨b1, 0, none⟩)), (3, .pointer (some ⟨b2, 0, none⟩)), (4, .pointer (some ⟨b4, 0, none⟩)), (34, .int .i64 (unN l : Int)), (35, .int .i64 (s.1 : Int))]) (fun s => [prow 111 s.2 (recs l s.1), blk b4 139 (eyeC L o l.length c (64 + 16 * s.1)), blk b2 26 [.int .i64 0], blk b1 102 [s.2]]) (fun s => unN l - s.1) (0, .slice none 0 0) ⟨Nat.zero_le _, fun j h => absurd h (Nat.not_lt_zero _)⟩ (Sub.cons rfl (Sub.cons rfl (Sub.cons rfl (Sub.cons rfl (Sub.cons rfl Sub.nil))))) (List.Perm.refl _) ?_
                  intro s hs
                  obtain ⟨k, vk⟩ := s
                  dsimp only at hs ⊢
                  refine At.seq ?_
                  refine At.region ?_
                  refine At.val (Val.bin rfl rfl rfl) rfl rfl rfl ?_
                  refine At.nil ?_
                  refine At.thenN ?_
                  refine At.seq ?_
                  refine At.cond rfl (fun h10 => ?_) (fun h10 => ?_)
                  · skip
                    try simp only [vN_T, vN_F, nmE_T, nmE_F, wI_T, wI_F, data_T, data_F, ino_T, ino_F, notT, notF, bneT, bneF, beqT, beqF, decT, decF] at h10
                    have hk : k < unN l := by omega
                    refine At.skipC ?_
                    refine At.thenN ?_
                    refine At.seq ?_
                    refine At.block ?_
                    refine At.seq ?_
                    refine At.region ?_
                    refine At.call1 1 rfl (fun w hw hr => eyeNumber_p _ L o c (64 + 16 * k) 8 l w hr (hb.mod hw.mod) (hw.newBlk (i := 1) rfl hL) hlc (by omega) (by omega) (by decide)) Tryd.call108 rfl rfl ?_
                    simp only [List.set_cons_zero, List.set_cons_succ]
                    refine At.val (Val.assign rfl) rfl rfl rfl ?_
                    refine At.nil ?_
                    refine At.thenN ?_
                    refine At.seq ?_
                    refine At.region ?_
                    refine At.val (Val.move rfl) rfl rfl rfl ?_
                    refine At.val (Val.bin rfl rfl rfl) rfl rfl rfl ?_
                    refine At.split (t := 39) rfl (fun h11 => ?_) (fun h11 => ?_)
                    · skip
                      try simp only [vN_T, vN_F, nmE_T, nmE_F, wI_T, wI_F, data_T, data_F, ino_T, ino_F, notT, notF, bneT, bneF, beqT, beqF, decT, decF] at h11
                      have hlt : num l (64 + 16 * k) 8 < 4294967296 := by omega
                      refine At.callP (fun w hw => must_T _ w) Tryd.call84 rfl rfl ?_
                      refine At.nil ?_
                      refine At.thenN ?_
                      apply At.any (t := 7)
                      · rfl
                      refine KAt.pin (fun w hw => hw.drop (List.Sublist.cons _ (List.Sublist.cons _ (List.Sublist.cons _ (List.Sublist.cons_cons _ (List.Sublist.refl _)))))) ?_
                      refine KAt.take 0 (Val.load (i := 0) Tryd.isAgg102 rfl rfl rfl) rfl rfl rfl rfl (fun w hw => hw.drop (List.Sublist.cons _ (List.Sublist.cons _ (List.Sublist.cons _ (List.Sublist.cons_cons _ (List.Sublist.refl _)))))) (by decide +kernel) ?_
                      refine KAt.take 1 (Val.move rfl) rfl rfl rfl rfl (fun w hw => hw.drop (List.Sublist.cons _ (List.Sublist.cons _ (List.Sublist.cons _ (List.Sublist.cons_cons _ (List.Sublist.refl _)))))) (by decide +kernel) ?_
                      first | refine KAt.take 2 (Val.toI Tryd.underlying40 Tryd.underlying3 rfl (by omega) (by omega)) rfl rfl rfl rfl (fun w hw => hw.drop (List.Sublist.cons _ (List.Sublist.cons _ (List.Sublist.cons _ (List.Sublist.cons_cons _ (List.Sublist.refl _)))))) (by decide +kernel) ?_ | refine KAt.take 2 (Val.conv Tryd.underlying40 Tryd.underlying3 rfl) rfl rfl rfl rfl (fun w hw => hw.drop (List.Sublist.cons _ (List.Sublist.cons _ (List.Sublist.cons _ (List.Sublist.cons_cons _ (List.Sublist.refl _)))))) (by decide +kernel) ?_
                      refine KAt.only 3 rfl (by decide +kernel) ?_
                      refine At.call1 1 rfl (fun w hw hr => eyeNumber_p _ L o c (64 + 16 * k + 8) 8 l w hr (hb.mod hw.mod) (hw.newBlk (i := 1) rfl hL) hlc (by omega) (by omega) (by decide)) Tryd.call108 rfl rfl ?_
                      simp only [List.set_cons_zero, List.set_cons_succ]
                      rw [num_wordA l (64 + 16 * k + 8)]
                      refine At.nil ?_
                      refine KAt.go (fun w hw => hw.drop (List.Sublist.cons _ (List.Sublist.cons _ (List.Sublist.cons _ (List.Sublist.cons_cons _ (List.Sublist.refl _)))))) ?_
                      refine KAt.take 4 (Val.build (fun a ha => by simp only [List.map_toArray, List.map_cons, List.map_nil, ha.eval (x := (.tmp 43)) rfl, ha.eval (x := (.tmp 44)) rfl] <;> rfl) (bld_111_0_1 _ _ )) rfl rfl rfl rfl (fun w hw => hw.drop (List.Sublist.cons _ (List.Sublist.cons _ (List.Sublist.cons _ (List.Sublist.cons_cons _ (List.Sublist.refl _)))))) (by decide +kernel) ?_
                      refine KAt.only 5 rfl (by decide +kernel) ?_
                      refine At.buildSl (fun a ha => by simp only [List.map_toArray, List.map_cons, List.map_nil, ha.eval (x := (.tmp 45)) rfl]; try rfl) (bs_102_1 _ _ ) rfl (fun b12 => ?_)
                      refine At.nil ?_
                      refine KAt.go (fun w hw => hw.drop (List.Sublist.cons _ (List.Sublist.cons _ (List.Sublist.cons _ (List.Sublist.cons _ (List.Sublist.cons_cons _ (List.Sublist.refl _))))))) ?_
                      refine KAt.only 6 rfl (by decide +kernel) ?_
                      refine At.appendP1 (i := 1) (j := 0) (by_ := 16) Tryd.underlying102 info_111 rfl rfl rfl rfl rfl rfl rfl rfl (by rw [recs_length]; omega) (by rw [recs_length]; omega) rfl (fun v13 => ?_)
                      simp only [List.set_cons_zero, List.set_cons_succ]
                      refine At.drop 0 ?_
                      simp only [List.eraseIdx_cons_zero, List.eraseIdx_cons_succ]
                      refine At.nil ?_
                      refine KAt.go (fun w hw => hw.drop (List.Sublist.cons _ (List.Sublist.cons _ (List.Sublist.cons _ (List.Sublist.cons_cons _ (List.Sublist.refl _)))))) ?_
                      refine KAt.only 7 rfl (by decide +kernel) ?_
                      refine At.rowOne (i := 0) rfl (fun ho14 => ?_)
                      refine At.store (i := 3) Tryd.sizeOf102 rfl rfl ho14 rfl (by first | decide | simp) ?_
                      simp only [List.set_cons_zero, List.set_cons_succ]
                      refine At.nil ?_
                      refine KAt.goT rfl ?_
                      refine KAt.done (by decide +kernel) ?_
                      refine At.blkN ?_
                      refine At.thenN ?_
                      refine At.region ?_
                      first | refine At.val (Val.addI rfl rfl (by omega) (by omega)) rfl rfl rfl ?_ | refine At.val (Val.bin rfl rfl rfl) rfl rfl rfl ?_
                      refine At.val (Val.move rfl) rfl rfl rfl ?_
                      refine At.nil ?_
                      refine At.thenN ?_
                      exact At.again (k + 1, v13) ⟨by dsimp only; omega, fun j hj => by rcases Nat.lt_or_ge j k with h | h; exact hs.2 j h; obtain rfl : k = j := (by dsimp only at hj; omega); assumption⟩ (by dsimp only; omega) (Sub.cons rfl (Sub.cons rfl (Sub.cons rfl (Sub.cons rfl (Sub.cons (congrArg (fun z => some (Value.int IntKind.i64 z)) (by omega)) Sub.nil))))) (by rw [recs_succ, show 64 + 16 * (k + 1) = 64 + 16 * k + 8 + 8 from by omega])
                    · skip
                      try simp only [vN_T, vN_F, nmE_T, nmE_F, wI_T, wI_F, data_T, data_F, ino_T, ino_F, notT, notF, bneT, bneF, beqT, beqF, decT, decF] at h11
                      have hno : ¬ OkUn l := fun h => by have := h.at hk; omega
                      refine At.callT0 (fun w hw => must_F _ w) Tryd.call84 rfl ?_
                      refine At.thenE ?_
                      refine At.blkE ?_
                      refine At.thenE ?_
                      refine At.thenE ?_
                      refine At.blkE ?_
                      refine At.thenE ?_
                      refine At.leaveP rfl Tryd.call118 ((erase_perm _ 3 _ rfl).trans (List.Perm.cons _ (erase_perm _ 2 _ rfl))) (fun w hw => caughtUndos_pan _ _ _ _ _ w (hw.blk (i := 0) rfl) rfl (hw.blk (i := 1) rfl) hw.ne01) rfl (ResOf.one (i := 0) Tryd.isAgg102 rfl rfl rfl) (ResOf.one (i := 1) Tryd.isAgg26 rfl rfl rfl) (fun w hw => ?_)
                      exact ⟨.slice none 0 0, by rw [openUnE_no hno], by rw [openUnL_no hno]; exact ((hw.drop (List.nil_sublist _)).f0).nilRow _ _⟩
                  · skip
                    try simp only [vN_T, vN_F, nmE_T, nmE_F, wI_T, wI_F, data_T, data_F, ino_T, ino_F, notT, notF, bneT, bneF, beqT, beqF, decT, decF] at h10
                    obtain rfl : k = unN l := by omega
                    refine At.exitC ?_
                    refine At.thenX ?_
                    refine At.thenX ?_
                    refine At.blkX ?_
                    refine At.thenN ?_
                    refine At.seq ?_
                    refine At.region ?_
                    refine At.val (Val.load (i := 3) Tryd.isAgg102 rfl rfl rfl) rfl rfl rfl ?_
                    refine At.callP (fun w hw => goodUn_p _ (recs l (unN l)) w (row_rd (hw.row (i := 0) rfl) (by decide)) (by rw [recs_length]; omega) (recs_bd hs.2)) Tryd.call114 rfl rfl ?_
                    refine At.split (t := 50) rfl (fun h15 => ?_) (fun h15 => ?_)
                    · skip
                      try simp only [vN_T, vN_F, nmE_T, nmE_F, wI_T, wI_F, data_T, data_F, ino_T, ino_F, notT, notF, bneT, bneF, beqT, beqF, decT, decF] at h15
                      have hgun : GoodUn (recs l (unN l)) := by simpa using h15
                      have hok : OkUn l := ⟨hl, hs0, .inr ⟨hn8, hseal, hgun⟩⟩
                      refine At.callP (fun w hw => must_T _ w) Tryd.call84 rfl rfl ?_
                      refine At.nil ?_
                      refine At.thenN ?_
                      refine At.seq ?_
                      refine At.region ?_
                      refine At.val (Val.load (i := 3) Tryd.isAgg102 rfl rfl rfl) rfl rfl rfl ?_
                      refine At.rowOne (i := 0) rfl (fun ho16 => ?_)
                      refine At.store (i := 3) Tryd.sizeOf102 rfl rfl ho16 rfl (by first | decide | simp) ?_
                      simp only [List.set_cons_zero, List.set_cons_succ]
                      refine At.store (i := 2) Tryd.sizeOf26 rfl rfl rfl rfl (by first | decide | simp) ?_
                      simp only [List.set_cons_zero, List.set_cons_succ]
                      refine At.nil ?_
                      refine At.thenN ?_
                      refine At.retC ?_
                      refine At.leaveN (.inl rfl) rfl Tryd.call118 (fun w hw => caughtUndos_idle _ _ w) rfl (ResOf.one (i := 3) Tryd.isAgg102 rfl rfl rfl) (ResOf.one (i := 2) Tryd.isAgg26 rfl rfl rfl) (fun w hw => ?_)
                      exact ⟨vk, by rw [openUnE_yes hok], by rw [openUnL_yes hok]; exact (hw.drop (List.singleton_sublist.2 (List.mem_of_getElem? (i := 0) rfl))).f0⟩
                    · skip
                      try simp only [vN_T, vN_F, nmE_T, nmE_F, wI_T, wI_F, data_T, data_F, ino_T, ino_F, notT, notF, bneT, bneF, beqT, beqF, decT, decF] at h15
                      have hno : ¬ OkUn l := fun h => absurd (h.two h0).2.2 (by simpa using h15)
                      refine At.callT0 (fun w hw => must_F _ w) Tryd.call84 rfl ?_
                      refine At.thenE ?_
                      refine At.leaveP rfl Tryd.call118 ((erase_perm _ 3 _ rfl).trans (List.Perm.cons _ (erase_perm _ 2 _ rfl))) (fun w hw => caughtUndos_pan _ _ _ _ _ w (hw.blk (i := 0) rfl) rfl (hw.blk (i := 1) rfl) hw.ne01) rfl (ResOf.one (i := 0) Tryd.isAgg102 rfl rfl rfl) (ResOf.one (i := 1) Tryd.isAgg26 rfl rfl rfl) (fun w hw => ?_)
                      exact ⟨.slice none 0 0, by rw [openUnE_no hno], by rw [openUnL_no hno]; exact ((hw.drop (List.nil_sublist _)).f0).nilRow _ _⟩
                · skip
                  try simp only [vN_T, vN_F, nmE_T, nmE_F, wI_T, wI_F, data_T, data_F, ino_T, ino_F, notT, notF, bneT, bneF, beqT, beqF, decT, decF] at h9
                  have hno : ¬ OkUn l := fun h => by have := (seal_lo (h.two h0).2.1).2; omega
                  refine At.callT0 (fun w hw => must_F _ w) Tryd.call84 rfl ?_
                  refine At.thenE ?_
                  refine At.leaveP rfl Tryd.call118 ((erase_perm _ 2 _ rfl).trans (List.Perm.cons _ (erase_perm _ 1 _ rfl))) (fun w hw => caughtUndos_pan _ _ _ _ _ w (hw.blk (i := 0) rfl) rfl (hw.blk (i := 1) rfl) hw.ne01) rfl (ResOf.one (i := 0) Tryd.isAgg102 rfl rfl rfl) (ResOf.one (i := 1) Tryd.isAgg26 rfl rfl rfl) (fun w hw => ?_)
                  exact ⟨.slice none 0 0, by rw [openUnE_no hno], by rw [openUnL_no hno]; exact ((hw.drop (List.nil_sublist _)).f0).nilRow _ _⟩
              · skip
                have hno : ¬ OkUn l := fun h => hs8 (seal_lo (h.two h0).2.1).1
                refine At.callT0 (fun w hw => held_F 520 (wordA l 8) 35 w (ht.mod hw.mod) hs8) Tryd.call97 rfl ?_
                refine At.thenE ?_
                refine At.leaveP rfl Tryd.call118 ((erase_perm _ 2 _ rfl).trans (List.Perm.cons _ (erase_perm _ 1 _ rfl))) (fun w hw => caughtUndos_pan _ _ _ _ _ w (hw.blk (i := 0) rfl) rfl (hw.blk (i := 1) rfl) hw.ne01) rfl (ResOf.one (i := 0) Tryd.isAgg102 rfl rfl rfl) (ResOf.one (i := 1) Tryd.isAgg26 rfl rfl rfl) (fun w hw => ?_)
                exact ⟨.slice none 0 0, by rw [openUnE_no hno], by rw [openUnL_no hno]; exact ((hw.drop (List.nil_sublist _)).f0).nilRow _ _⟩
          · skip
            try simp only [vN_T, vN_F, nmE_T, nmE_F, wI_T, wI_F, data_T, data_F, ino_T, ino_F, notT, notF, bneT, bneF, beqT, beqF, decT, decF] at h6
            have hno : ¬ OkUn l := fun h => by have := (h.two h0).1; omega
            refine At.callT0 (fun w hw => must_F _ w) Tryd.call84 rfl ?_
            refine At.thenE ?_
            refine At.leaveP rfl Tryd.call118 ((erase_perm _ 2 _ rfl).trans (List.Perm.cons _ (erase_perm _ 1 _ rfl))) (fun w hw => caughtUndos_pan _ _ _ _ _ w (hw.blk (i := 0) rfl) rfl (hw.blk (i := 1) rfl) hw.ne01) rfl (ResOf.one (i := 0) Tryd.isAgg102 rfl rfl rfl) (ResOf.one (i := 1) Tryd.isAgg26 rfl rfl rfl) (fun w hw => ?_)
            exact ⟨.slice none 0 0, by rw [openUnE_no hno], by rw [openUnL_no hno]; exact ((hw.drop (List.nil_sublist _)).f0).nilRow _ _⟩
      · skip
        have hno : ¬ OkUn l := fun h => hs0 h.2.1
        refine At.callT0 (fun w hw => held_F 512 (wordA l 0) 35 w (ht.mod hw.mod) hs0) Tryd.call97 rfl ?_
        refine At.thenE ?_
        refine At.leaveP rfl Tryd.call118 ((erase_perm _ 2 _ rfl).trans (List.Perm.cons _ (erase_perm _ 1 _ rfl))) (fun w hw => caughtUndos_pan _ _ _ _ _ w (hw.blk (i := 0) rfl) rfl (hw.blk (i := 1) rfl) hw.ne01) rfl (ResOf.one (i := 0) Tryd.isAgg102 rfl rfl rfl) (ResOf.one (i := 1) Tryd.isAgg26 rfl rfl rfl) (fun w hw => ?_)
        exact ⟨.slice none 0 0, by rw [openUnE_no hno], by rw [openUnL_no hno]; exact ((hw.drop (List.nil_sublist _)).f0).nilRow _ _⟩
  · skip
    try simp only [vN_T, vN_F, nmE_T, nmE_F, wI_T, wI_F, data_T, data_F, ino_T, ino_F, notT, notF, bneT, bneF, beqT, beqF, decT, decF] at h3
    have hno : ¬ OkUn l := fun h => by have := h.1; omega
    refine At.callT0 (fun w hw => must_F _ w) Tryd.call84 rfl ?_
    refine At.thenE ?_
    refine At.leaveP rfl Tryd.call118 ((erase_perm _ 1 _ rfl).trans (List.Perm.cons _ (erase_perm _ 0 _ rfl))) (fun w hw => caughtUndos_pan _ _ _ _ _ w (hw.blk (i := 0) rfl) rfl (hw.blk (i := 1) rfl) hw.ne01) rfl (ResOf.one (i := 0) Tryd.isAgg102 rfl rfl rfl) (ResOf.one (i := 1) Tryd.isAgg26 rfl rfl rfl) (fun w hw => ?_)
    exact ⟨.slice none 0 0, by rw [openUnE_no hno], by rw [openUnL_no hno]; exact ((hw.drop (List.nil_sublist _)).f0).nilRow _ _⟩

end Go.Proofs.YtoiebgnmknbkjaaDoor
