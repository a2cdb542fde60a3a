/- What a record's bytes say. -/
import Derived.Test.YtoiebgnmknbkjaaDoorB31
import Derived.Test.YtoiebgnmknbkjaaDoorB7
import Derived.Test.YtoiebgnmknbkjaaDoorPa
import Derived.Test.YtoiebgnmknbkjaaDoorB1
set_option linter.unusedVariables false
set_option linter.unusedSimpArgs false
namespace Go.Proofs.YtoiebgnmknbkjaaDoor
open Go Go.Wk

theorem take_twoV {l : List UInt8} (a n m : Nat) : (l.drop a).take (n + m) = (l.drop a).take n ++ (l.drop (a + n)).take m := by rw [List.take_add, List.drop_drop]
theorem num_appV {a b m : List UInt8} {n x p : Nat} (e : m = a ++ (le n x ++ b)) (ha : a.length = p) (hx : x < 256 ^ n) : num m p n = x := by
  subst e; unfold num; rw [← ha, List.drop_left, List.take_left' (le_length n x), fromLe_le n x hx]
theorem num_extV {l m : List UInt8} {a n : Nat} (h : ∀ i, a ≤ i → i < a + n → l[i]? = m[i]?) : num l a n = num m a n := by
  unfold num
  congr 1
  apply List.ext_getElem?
  intro i
  rw [List.getElem?_take, List.getElem?_take]
  split
  · rw [List.getElem?_drop, List.getElem?_drop]; exact h _ (by omega) (by omega)
  · rfl
theorem num4_two {l : List UInt8} {a : Nat} (h : a + 4 ≤ l.length) : num l a 4 = num l a 2 + 65536 * num l (a + 2) 2 := by
  unfold num
  rw [show (4 : Nat) = 2 + 2 from rfl, take_twoV a 2 2, fromLe_append, List.length_take, List.length_drop, Nat.min_eq_left (by omega)]
theorem num4_div {l : List UInt8} {a : Nat} (h : a + 4 ≤ l.length) : num l a 4 % 65536 = num l a 2 ∧ num l a 4 / 65536 = num l (a + 2) 2 := by
  have h1 := num_lt (l := l) a 2
  rw [num4_two h]; omega
def svN (l : List UInt8) : Nat := num l 16 4
def svT (l : List UInt8) : BitVec 32 := BitVec.ofNat 32 (num l 8 4)
theorem svT_nat (l : List UInt8) : (svT l).toNat = num l 8 4 := by
  unfold svT; rw [BitVec.toNat_ofNat, Nat.mod_eq_of_lt (by have := num_lt (l := l) 8 4; simpa using this)]
theorem num_svT (l : List UInt8) : Value.int .u32 ((num l 8 4 : Nat) : Int) = b32 (svT l) := by
  show _ = Value.int .u32 ((svT l).toNat : Int); rw [svT_nat]
def spRec (l : List UInt8) (n : Nat) : List (Int × Int) := (List.range n).map fun j => (((num l (24 + 4 * j) 2 : Nat) : Int), ((num l (24 + 4 * j + 2) 2 : Nat) : Int))
theorem spRec_succ (l : List UInt8) (n : Nat) : spRec l (n + 1) = spRec l n ++ [(((num l (24 + 4 * n) 2 : Nat) : Int), ((num l (24 + 4 * n + 2) 2 : Nat) : Int))] := by
  unfold spRec; rw [List.range_succ, List.map_append]; rfl
theorem spRec_length (l : List UInt8) (n : Nat) : (spRec l n).length = n := by unfold spRec; simp
def segV (l : List UInt8) (n : Nat) : List UInt8 := (l.drop 24).take (4 * n)
theorem spB_rec {l : List UInt8} {n : Nat} (h : 24 + 4 * n ≤ l.length) : spB (spRec l n) = segV l n := by
  induction n with
  | zero => simp [spRec, spB, segV]
  | succ n ih =>
    rw [spRec_succ, spB_snoc, ih (by omega)]
    show segV l n ++ le 2 ((num l (24 + 4 * n) 2 : Nat) : Int).toNat ++ le 2 ((num l (24 + 4 * n + 2) 2 : Nat) : Int).toNat = _
    rw [Int.toNat_natCast, Int.toNat_natCast, le_num (by omega), le_num (by omega)]
    unfold segV
    rw [show 4 * (n + 1) = 4 * n + (2 + 2) by omega, take_twoV 24 (4 * n) (2 + 2), take_twoV (24 + 4 * n) 2 2, List.append_assoc]
def sumOf (l : List UInt8) : BitVec 32 := sumOn 0 (l.take 20 ++ segV l (svN l))
def OkSv (l : List UInt8) : Prop := 24 ≤ l.length ∧ (l.drop 0).take 8 = magic ∧ allZero ((l.drop 12).take 4) ∧ svN l ≤ 249 ∧ 24 + 4 * svN l ≤ l.length ∧ num l 20 4 = (sumOf l).toNat ∧ GoodSv (svT l) (spRec l (svN l))
noncomputable instance (l : List UInt8) : Decidable (OkSv l) := Classical.propDecidable _
noncomputable def oT (l : List UInt8) : BitVec 32 := if OkSv l then svT l else 0
noncomputable def oL (l : List UInt8) : List (Int × Int) := if OkSv l then spRec l (svN l) else []
noncomputable def oE (l : List UInt8) : Int := if OkSv l then 0 else 36
theorem oT_yes {l : List UInt8} (h : OkSv l) : oT l = svT l := if_pos h
theorem oL_yes {l : List UInt8} (h : OkSv l) : oL l = spRec l (svN l) := if_pos h
theorem oE_yes {l : List UInt8} (h : OkSv l) : oE l = 0 := if_pos h
theorem oT_no {l : List UInt8} (h : ¬ OkSv l) : oT l = 0 := if_neg h
theorem oL_no {l : List UInt8} (h : ¬ OkSv l) : oL l = [] := if_neg h
theorem oE_no {l : List UInt8} (h : ¬ OkSv l) : oE l = 36 := if_neg h
/-- The bytes of what a record says are the record's. -/
theorem hd20_take {l : List UInt8} (h24 : 24 ≤ l.length) (hm : (l.drop 0).take 8 = magic) (hz : allZero ((l.drop 12).take 4)) : hd20 (svT l) (svN l) = l.take 20 := by
  have e : l.take 20 = (l.drop 0).take 8 ++ (l.drop 8).take 4 ++ (l.drop 12).take 4 ++ (l.drop 16).take 4 := by
    have h1 := take_twoV (l := l) 0 8 12
    have h2 := take_twoV (l := l) 8 4 8
    have h3 := take_twoV (l := l) 12 4 4
    rw [List.drop_zero] at h1
    rw [show (20 : Nat) = 8 + 12 from rfl, h1, show (12 : Nat) = 4 + 8 from rfl, h2, show (8 : Nat) = 4 + 4 from rfl, h3]
    simp only [List.append_assoc, List.drop_zero]
  have hz4 : (l.drop 12).take 4 = zs 4 := by
    have := allZero_eq hz
    rwa [show ((l.drop 12).take 4).length = 4 from by rw [List.length_take, List.length_drop]; omega] at this
  unfold hd20
  rw [e, hm, svT_nat, le_num (by omega), hz4, show le 4 (svN l) = (l.drop 16).take 4 from le_num (by omega)]
theorem svB_take {l : List UInt8} (h : OkSv l) : svB (svT l) (spRec l (svN l)) = l.take (24 + 4 * svN l) ++ pad (svN l) := by
  obtain ⟨h24, hm, hz, hn, hl, hs, hg⟩ := h
  unfold svB svSum
  rw [spRec_length, spB_rec hl, hd20_take h24 hm hz, show sumOn 0 (l.take 20 ++ segV l (svN l)) = sumOf l from rfl, ← hs, le_num (by omega)]
  congr 1
  have h1 := take_twoV (l := l) 0 20 (4 + 4 * svN l)
  have h2 := take_twoV (l := l) 20 4 (4 * svN l)
  rw [List.drop_zero] at h1
  rw [show 24 + 4 * svN l = 20 + (4 + 4 * svN l) by omega, h1, h2, List.append_assoc]
  rfl
theorem sv_same {l : List UInt8} (h : OkSv l) {i : Nat} (hi : i < 24 + 4 * svN l) : (svP (svT l) (spRec l (svN l)))[i]? = l[i]? := by
  rw [svP_T h.2.2.2.2.2.2, svB_take h, List.getElem?_append_left (by rw [List.length_take]; have := h.2.2.2.2.1; omega), List.getElem?_take, if_pos hi]
theorem sv_back {l : List UInt8} (h24 : 24 ≤ l.length) (hn : svN l ≤ 249) (hl : 24 + 4 * svN l ≤ l.length) (hg : GoodSv (svT l) (spRec l (svN l))) (h : ∀ i, i < 24 + 4 * svN l → (svP (svT l) (spRec l (svN l)))[i]? = l[i]?) : OkSv l := by
  rw [svP_T hg] at h
  have cut : ∀ a m, a + m ≤ 24 + 4 * svN l → (l.drop a).take m = ((svB (svT l) (spRec l (svN l))).drop a).take m := fun a m ham => by
    apply List.ext_getElem?
    intro i
    rw [List.getElem?_take, List.getElem?_take]
    split
    · rw [List.getElem?_drop, List.getElem?_drop]; exact (h _ (by omega)).symm
    · rfl
  have eB : svB (svT l) (spRec l (svN l)) = magic ++ (le 4 (svT l).toNat ++ (zs 4 ++ (le 4 (svN l) ++ (le 4 (svSum (svT l) (spRec l (svN l))).toNat ++ (spB (spRec l (svN l)) ++ pad (svN l)))))) := by
    unfold svB hd20; rw [spRec_length]; simp only [List.append_assoc]
  have hm : (l.drop 0).take 8 = magic := by rw [cut 0 8 (by omega), eB, List.drop_zero]; exact List.take_left' rfl
  have hz : allZero ((l.drop 12).take 4) := by
    rw [cut 12 4 (by omega), eB, show (12 : Nat) = 8 + 4 from rfl, ← List.drop_drop, show (8 : Nat) = magic.length from rfl, List.drop_left, List.drop_left' (le_length ..), List.take_left' (zs_length 4)]
    intro c hc; exact List.eq_of_mem_replicate hc
  refine ⟨h24, hm, hz, hn, hl, ?_, hg⟩
  have hs : num l 20 4 = (svSum (svT l) (spRec l (svN l))).toNat := by
    rw [num_extV (m := svB (svT l) (spRec l (svN l))) (fun i _ hi => (h i (by omega)).symm)]
    refine num_appV (a := hd20 (svT l) (svN l)) (b := spB (spRec l (svN l)) ++ pad (svN l)) ?_ (hd20_length ..) (by have := (svSum (svT l) (spRec l (svN l))).isLt; simpa using this)
    unfold svB; rw [spRec_length]; simp only [List.append_assoc]
  rw [hs]
  unfold svSum sumOf
  rw [spRec_length, spB_rec hl, hd20_take h24 hm hz]
theorem cmpV_eq {p l : List UInt8} {k : Nat} {q r : UInt8} (h1 : p[(k : Int).toNat]? = some q) (h2 : l[(k : Int).toNat]? = some r) (e : (q.toNat : Int) = r.toNat) : p[k]? = l[k]? := by
  rw [Int.toNat_natCast] at h1 h2; rw [h1, h2, UInt8.toNat_inj.1 (show q.toNat = r.toNat by omega)]
theorem cmpV_ne {p l : List UInt8} {k : Nat} {q r : UInt8} (h1 : p[(k : Int).toNat]? = some q) (h2 : l[(k : Int).toNat]? = some r) (e : ¬ (q.toNat : Int) = r.toNat) : ¬ p[k]? = l[k]? := fun h => by
  rw [Int.toNat_natCast] at h1 h2; rw [h1, h2] at h; obtain rfl := Option.some.inj h; exact e rfl

theorem openSv_n (v : Value) (l : List UInt8) (w : World) (ht : Tab w) (hv : RdB w v l) (hlen : l.length ≤ 140737488355328) :
    NewRowT Tryd.prog 48 [v] (fun v => .tuple #[.agg #[b32 (oT l), v], .int .i64 (oE l)]) 88 2 (oL l).length (prS (oL l)) w := by
  refine enterD0 Tryd.func48 rfl Tryd.ntmps48 rfl ?_
  have hn8 := num_lt (l := l) 8 4
  have hn16 := num_lt (l := l) 16 4
  have hn20 := num_lt (l := l) 20 4
  simp only [envOf]
  refine At.seq ?_
  refine At.region ?_
  refine At.alloc Tryd.zeroValue74 rfl rfl (fun b1 => ?_)
  refine At.alloc Tryd.zeroValue26 rfl rfl (fun b2 => ?_)
  refine At.nil ?_
  refine At.thenN ?_
  refine At.seq ?_
  refine At.region ?_
  refine At.defer rfl ?_
  refine At.nil ?_
  refine At.thenN ?_
  refine At.seq ?_
  refine At.region ?_
  refine At.val (Val.move rfl) rfl rfl rfl ?_
  refine At.val (Val.lenRd hv Tryd.underlying54 rfl) rfl rfl rfl ?_
  refine At.val (Val.bin rfl rfl rfl) rfl rfl rfl ?_
  refine At.split (t := 8) rfl (fun h3 => ?_) (fun h3 => ?_)
  · skip
    try simp only [vN_T, vN_F, nmE_T, nmE_F, wI_T, wI_F, data_T, data_F, ino_T, ino_F, notT, notF, bneT, bneF, beqT, beqF, decT, decF] at h3
    have h24 : 24 ≤ l.length := by omega
    obtain ⟨L, o, c, rfl, hb, hlc, hL⟩ := RdB.some hv (by omega)
    refine At.callP (fun w hw => must_T _ w) Tryd.call84 rfl rfl ?_
    refine At.nil ?_
    refine At.thenN ?_
    refine At.seq ?_
    refine At.region ?_
    refine At.val (Val.move rfl) rfl rfl rfl ?_
    refine At.val (Val.build (fun a ha => by simp only [List.map_toArray, List.map_cons, List.map_nil, ha.eval (x := (.tmp 10)) rfl] <;> rfl) (bld_139_0 _ _ _ )) rfl rfl rfl ?_
    refine At.alloc Tryd.zeroValue139 rfl rfl (fun b4 => ?_)
    refine At.storeAll (i := 0) Tryd.sizeOf139 rfl rfl rfl (by simp [Value.oneCell']) rfl rfl ?_
    simp only [List.set_cons_zero, List.set_cons_succ]
    refine At.nil ?_
    rw [show ([Value.slice (some ⟨L, o, none⟩) l.length c, Value.int IntKind.i64 0] : List Value) = eyeC L o l.length c 0 from rfl]
    refine At.thenN ?_
    refine At.seq ?_
    refine At.region ?_
    by_cases hmark : (l.drop 0).take 8 = magic
    · skip
      refine At.call1 0 rfl (fun w hw hr => eyeText_T _ L o c 0 l ⟨#[70, 85, 82, 82, 79, 87, 83, 86]⟩ 36 w hr (hb.mod hw.mod) (hw.newBlk (i := 0) rfl hL) hlc (by omega) (by show 0 + 8 ≤ _; omega) hmark) Tryd.call86 rfl rfl ?_
      simp only [List.set_cons_zero, List.set_cons_succ]
      refine At.nil ?_
      refine At.thenN ?_
      refine At.seq ?_
      rw [show 0 + (⟨#[70, 85, 82, 82, 79, 87, 83, 86]⟩ : ByteArray).data.toList.length = 8 from rfl]
      refine At.region ?_
      refine At.call1 0 rfl (fun w hw hr => eyeNumber_p _ L o c 8 4 l w hr (hb.mod hw.mod) (hw.newBlk (i := 0) rfl hL) hlc (by omega) (by omega) (by decide)) Tryd.call108 rfl rfl ?_
      simp only [List.set_cons_zero, List.set_cons_succ]
      refine At.val (Val.toW Tryd.underlying40 Tryd.underlying48 rfl (by omega) (by omega)) rfl rfl rfl ?_
      rw [num_svT l]
      refine At.val (Val.field 0 rfl fo_74_0 rfl) rfl rfl rfl ?_
      refine At.store (i := 2) Tryd.sizeOf48 rfl rfl rfl rfl (by first | decide | simp) ?_
      simp only [List.set_cons_zero, List.set_cons_succ]
      refine At.nil ?_
      rw [show (8 : Nat) + 4 = 12 from rfl]
      refine At.thenN ?_
      refine At.seq ?_
      refine At.region ?_
      by_cases hzero : allZero ((l.drop 12).take 4)
      · skip
        refine At.call1 0 rfl (fun w hw hr => eyeZeros_T _ L o c 12 4 l 36 w hr (hb.mod hw.mod) (hw.newBlk (i := 0) rfl hL) hlc (by omega) (by omega) hzero) Tryd.call88 rfl rfl ?_
        simp only [List.set_cons_zero, List.set_cons_succ]
        refine At.nil ?_
        refine At.thenN ?_
        refine At.seq ?_
        refine At.region ?_
        refine At.call1 0 rfl (fun w hw hr => eyeHalf_p _ L o c (12 + 4) l w hr (hb.mod hw.mod) (hw.newBlk (i := 0) rfl hL) hlc (by omega) (by omega)) Tryd.call87 rfl rfl ?_
        simp only [List.set_cons_zero, List.set_cons_succ]
        refine At.val (Val.assign rfl) rfl rfl rfl ?_
        refine At.nil ?_
        rw [show (12 : Nat) + 4 = 16 from rfl, show num l 16 4 = svN l from rfl]
        refine At.thenN ?_
        refine At.seq ?_
        refine At.region ?_
        refine At.val (Val.move rfl) rfl rfl rfl ?_
        refine At.val (Val.bin rfl rfl rfl) rfl rfl rfl ?_
        refine At.val (Val.move rfl) rfl rfl rfl ?_
        refine At.split (t := 20) rfl (fun h5 => ?_) (fun h5 => ?_)
        · skip
          try simp only [vN_T, vN_F, nmE_T, nmE_F, wI_T, wI_F, data_T, data_F, ino_T, ino_F, notT, notF, bneT, bneF, beqT, beqF, decT, decF] at h5
          refine At.yes rfl rfl ?_
          refine At.val (Val.move rfl) rfl rfl rfl ?_
          refine At.yes rfl rfl ?_
          refine At.val (Val.lenRd hv Tryd.underlying54 rfl) rfl rfl rfl ?_
          refine At.yes rfl rfl ?_
          refine At.val (Val.move rfl) rfl rfl rfl ?_
          refine At.yes rfl rfl ?_
          first | refine At.val (Val.mulI rfl rfl (by omega) (by omega)) rfl rfl rfl ?_ | refine At.val (Val.bin rfl rfl rfl) rfl rfl rfl ?_
          refine At.yes rfl rfl ?_
          first | refine At.val (Val.addI rfl rfl (by omega) (by omega)) rfl rfl rfl ?_ | refine At.val (Val.bin rfl rfl rfl) rfl rfl rfl ?_
          refine At.yes rfl rfl ?_
          refine At.val (Val.bin rfl rfl rfl) rfl rfl rfl ?_
          refine At.val (Val.pickT rfl rfl) rfl rfl rfl ?_
          refine At.split (t := 27) rfl (fun h6 => ?_) (fun h6 => ?_)
          · skip
            try simp only [vN_T, vN_F, nmE_T, nmE_F, wI_T, wI_F, data_T, data_F, ino_T, ino_F, notT, notF, bneT, bneF, beqT, beqF, decT, decF] at h6
            have hn249 : svN l ≤ 249 := by omega
            have hl4 : 24 + 4 * svN l ≤ l.length := by omega
            refine At.callP (fun w hw => must_T _ w) Tryd.call84 rfl rfl ?_
            refine At.nil ?_
            refine At.thenN ?_
            refine At.seq ?_
            refine At.region ?_
            refine At.call1 0 rfl (fun w hw hr => eyeNumber_p _ L o c (16 + 4) 4 l w hr (hb.mod hw.mod) (hw.newBlk (i := 0) rfl hL) hlc (by omega) (by omega) (by decide)) Tryd.call108 rfl rfl ?_
            simp only [List.set_cons_zero, List.set_cons_succ]
            skip
            · skip
              rw [show (16 : Nat) + 4 = 20 from rfl]
              first | refine At.val (Val.toW Tryd.underlying40 Tryd.underlying48 rfl (by omega) (by omega)) rfl rfl rfl ?_ | refine At.val (Val.conv Tryd.underlying40 Tryd.underlying48 rfl) rfl rfl rfl ?_
              refine At.val (Val.move rfl) rfl rfl rfl ?_
              refine At.val (Val.move rfl) rfl rfl rfl ?_
              refine At.callP (fun w hw => (show PureC _ _ _ (b32 (sumOf l)) w from svSum_p _ l (svN l) w (ht.mod hw.mod) (hv.mod hw.mod) hl4 (by omega))) Tryd.call104 rfl rfl ?_
              refine At.val (Val.bin rfl rfl rfl) rfl rfl rfl ?_
              refine At.split (t := 34) rfl (fun h7 => ?_) (fun h7 => ?_)
              · skip
                try simp only [vN_T, vN_F, nmE_T, nmE_F, wI_T, wI_F, data_T, data_F, ino_T, ino_F, notT, notF, bneT, bneF, beqT, beqF, decT, decF] at h7
                have hsum : num l 20 4 = (sumOf l).toNat := Int.ofNat.inj h7
                refine At.callP (fun w hw => must_T _ w) Tryd.call84 rfl rfl ?_
                refine At.nil ?_
                rw [show (20 : Nat) + 4 = 24 from rfl]
                refine At.thenN ?_
                refine At.seq ?_
                refine At.seq ?_
                refine At.region ?_
                refine At.val (Val.move rfl) rfl rfl rfl ?_
                refine At.val (Val.move rfl) rfl rfl rfl ?_
                refine At.nil ?_
                refine At.rowNilS 88 ?_
                refine At.thenN ?_
                refine At.block ?_
                skip
                refine At.loop (σ := Nat × Value) (fun s => s.1 ≤ svN l) (fun s => [(2, .pointer (some ⟨b1, 0, none⟩)), (3, .pointer (some ⟨b2, 0, none⟩)), (4, .pointer (some ⟨b4, 0, none⟩)), (36, .int .i64 (svN l : Int)), (37, .int .i64 (s.1 : Int))]) (fun s => [srow 88 s.2 (spRec l s.1), blk b4 139 (eyeC L o l.length c (24 + 4 * s.1)), blk b2 26 [.int .i64 0], blk b1 74 [b32 (svT l), s.2]]) (fun s => svN l - s.1) (0, .slice none 0 0) (Nat.zero_le _) (Sub.cons rfl (Sub.cons rfl (Sub.cons rfl (Sub.cons rfl (Sub.cons rfl Sub.nil))))) (List.Perm.refl _) ?_
                intro s hs
                obtain ⟨k, vk⟩ := s
                dsimp only at hs ⊢
                have hn2 := num_lt (l := l) (24 + 4 * k) 2
                have hn3 := num_lt (l := l) (24 + 4 * k + 2) 2
                refine At.seq ?_
                refine At.region ?_
                refine At.val (Val.bin rfl rfl rfl) rfl rfl rfl ?_
                refine At.nil ?_
                refine At.thenN ?_
                refine At.seq ?_
                refine At.cond rfl (fun h8 => ?_) (fun h8 => ?_)
                · skip
                  try simp only [vN_T, vN_F, nmE_T, nmE_F, wI_T, wI_F, data_T, data_F, ino_T, ino_F, notT, notF, bneT, bneF, beqT, beqF, decT, decF] at h8
                  have hk : k < svN l := by omega
                  refine At.skipC ?_
                  refine At.thenN ?_
                  refine At.seq ?_
                  refine At.block ?_
                  apply At.any (t := 10)
                  · rfl
                  refine KAt.pin (fun w hw => hw.drop (List.Sublist.cons _ (List.Sublist.cons _ (List.Sublist.cons _ (List.Sublist.cons_cons _ (List.Sublist.refl _)))))) ?_
                  refine KAt.take 0 (Val.field 1 rfl fo_74_1 rfl) rfl rfl rfl rfl (fun w hw => hw.drop (List.Sublist.cons _ (List.Sublist.cons _ (List.Sublist.cons _ (List.Sublist.cons_cons _ (List.Sublist.refl _)))))) (by decide +kernel) ?_
                  refine KAt.take 1 (Val.load (i := 0) Tryd.isAgg72 rfl rfl rfl) rfl rfl rfl rfl (fun w hw => hw.drop (List.Sublist.cons _ (List.Sublist.cons _ (List.Sublist.cons _ (List.Sublist.cons_cons _ (List.Sublist.refl _)))))) (by decide +kernel) ?_
                  refine KAt.only 2 rfl (by decide +kernel) ?_
                  refine At.call1 1 rfl (fun w hw hr => eyeNumber_p _ L o c (24 + 4 * k) 2 l w hr (hb.mod hw.mod) (hw.newBlk (i := 1) rfl hL) hlc (by omega) (by omega) (by decide)) Tryd.call108 rfl rfl ?_
                  simp only [List.set_cons_zero, List.set_cons_succ]
                  refine At.nil ?_
                  refine KAt.go (fun w hw => hw.drop (List.Sublist.cons _ (List.Sublist.cons _ (List.Sublist.cons _ (List.Sublist.cons_cons _ (List.Sublist.refl _)))))) ?_
                  first | refine KAt.take 3 (Val.toI Tryd.underlying40 Tryd.underlying3 rfl (by omega) (by omega)) rfl rfl rfl rfl (fun w hw => hw.drop (List.Sublist.cons _ (List.Sublist.cons _ (List.Sublist.cons _ (List.Sublist.cons_cons _ (List.Sublist.refl _)))))) (by decide +kernel) ?_ | refine KAt.take 3 (Val.conv Tryd.underlying40 Tryd.underlying3 rfl) rfl rfl rfl rfl (fun w hw => hw.drop (List.Sublist.cons _ (List.Sublist.cons _ (List.Sublist.cons _ (List.Sublist.cons_cons _ (List.Sublist.refl _)))))) (by decide +kernel) ?_
                  refine KAt.only 4 rfl (by decide +kernel) ?_
                  refine At.call1 1 rfl (fun w hw hr => eyeNumber_p _ L o c (24 + 4 * k + 2) 2 l w hr (hb.mod hw.mod) (hw.newBlk (i := 1) rfl hL) hlc (by omega) (by omega) (by decide)) Tryd.call108 rfl rfl ?_
                  simp only [List.set_cons_zero, List.set_cons_succ]
                  refine At.nil ?_
                  refine KAt.go (fun w hw => hw.drop (List.Sublist.cons _ (List.Sublist.cons _ (List.Sublist.cons _ (List.Sublist.cons_cons _ (List.Sublist.refl _)))))) ?_
                  first | refine KAt.take 5 (Val.toI Tryd.underlying40 Tryd.underlying3 rfl (by omega) (by omega)) rfl rfl rfl rfl (fun w hw => hw.drop (List.Sublist.cons _ (List.Sublist.cons _ (List.Sublist.cons _ (List.Sublist.cons_cons _ (List.Sublist.refl _)))))) (by decide +kernel) ?_ | refine KAt.take 5 (Val.conv Tryd.underlying40 Tryd.underlying3 rfl) rfl rfl rfl rfl (fun w hw => hw.drop (List.Sublist.cons _ (List.Sublist.cons _ (List.Sublist.cons _ (List.Sublist.cons_cons _ (List.Sublist.refl _)))))) (by decide +kernel) ?_
                  refine KAt.take 6 (Val.build (fun a ha => by simp only [List.map_toArray, List.map_cons, List.map_nil, ha.eval (x := (.tmp 42)) rfl, ha.eval (x := (.tmp 44)) rfl] <;> rfl) (bld_88_0_1 _ _ )) rfl rfl rfl rfl (fun w hw => hw.drop (List.Sublist.cons _ (List.Sublist.cons _ (List.Sublist.cons _ (List.Sublist.cons_cons _ (List.Sublist.refl _)))))) (by decide +kernel) ?_
                  refine KAt.only 7 rfl (by decide +kernel) ?_
                  refine At.buildSl (fun a ha => by simp only [List.map_toArray, List.map_cons, List.map_nil, ha.eval (x := (.tmp 45)) rfl]; try rfl) (bs_72_1 _ _ ) rfl (fun b9 => ?_)
                  refine At.nil ?_
                  refine KAt.go (fun w hw => hw.drop (List.Sublist.cons _ (List.Sublist.cons _ (List.Sublist.cons _ (List.Sublist.cons _ (List.Sublist.cons_cons _ (List.Sublist.refl _))))))) ?_
                  refine KAt.only 8 rfl (by decide +kernel) ?_
                  refine At.appendS1 (i := 1) (j := 0) (by_ := 16) Tryd.underlying72 info_88 rfl rfl rfl rfl rfl rfl rfl rfl (by rw [spRec_length]; omega) (by rw [spRec_length]; omega) rfl (fun v10 => ?_)
                  simp only [List.set_cons_zero, List.set_cons_succ]
                  refine At.drop 0 ?_
                  simp only [List.eraseIdx_cons_zero, List.eraseIdx_cons_succ]
                  refine At.nil ?_
                  refine KAt.go (fun w hw => hw.drop (List.Sublist.cons _ (List.Sublist.cons _ (List.Sublist.cons _ (List.Sublist.cons_cons _ (List.Sublist.refl _)))))) ?_
                  refine KAt.take 9 (Val.field 1 rfl fo_74_1 rfl) rfl rfl rfl rfl (fun w hw => hw.drop (List.Sublist.cons _ (List.Sublist.cons _ (List.Sublist.cons _ (List.Sublist.cons_cons _ (List.Sublist.refl _)))))) (by decide +kernel) ?_
                  refine KAt.only 10 rfl (by decide +kernel) ?_
                  refine At.rowOne (i := 0) rfl (fun ho11 => ?_)
                  refine At.store (i := 3) Tryd.sizeOf72 rfl rfl ho11 rfl (by first | decide | simp) ?_
                  simp only [List.set_cons_zero, List.set_cons_succ]
                  refine At.nil ?_
                  refine KAt.goT rfl ?_
                  refine KAt.done (by decide +kernel) ?_
                  refine At.blkN ?_
                  refine At.thenN ?_
                  refine At.region ?_
                  first | refine At.val (Val.addI rfl rfl (by omega) (by omega)) rfl rfl rfl ?_ | refine At.val (Val.bin rfl rfl rfl) rfl rfl rfl ?_
                  refine At.val (Val.move rfl) rfl rfl rfl ?_
                  refine At.nil ?_
                  refine At.thenN ?_
                  exact At.again (k + 1, v10) (show k + 1 ≤ _ by omega) (by dsimp only; omega) (Sub.cons rfl (Sub.cons rfl (Sub.cons rfl (Sub.cons rfl (Sub.cons (congrArg (fun z => some (Value.int IntKind.i64 z)) (by omega)) Sub.nil))))) (by rw [spRec_succ, show 24 + 4 * (k + 1) = 24 + 4 * k + 2 + 2 from by omega])
                · skip
                  try simp only [vN_T, vN_F, nmE_T, nmE_F, wI_T, wI_F, data_T, data_F, ino_T, ino_F, notT, notF, bneT, bneF, beqT, beqF, decT, decF] at h8
                  obtain rfl : k = svN l := by omega
                  refine At.exitC ?_
                  refine At.thenX ?_
                  refine At.thenX ?_
                  refine At.blkX ?_
                  refine At.thenN ?_
                  refine At.seq ?_
                  refine At.region ?_
                  refine At.val (Val.loadAll (i := 3) Tryd.isAgg74 Tryd.sizeOf74 rfl rfl rfl) rfl rfl rfl ?_
                  refine At.callP (fun w hw => goodSv_p (svT l) _ (spRec l (svN l)) w (row_rd (hw.row (i := 0) rfl) (by decide)) (by rw [spRec_length]; omega)) Tryd.call102 rfl rfl ?_
                  refine At.split (t := 51) rfl (fun h12 => ?_) (fun h12 => ?_)
                  · skip
                    try simp only [vN_T, vN_F, nmE_T, nmE_F, wI_T, wI_F, data_T, data_F, ino_T, ino_F, notT, notF, bneT, bneF, beqT, beqF, decT, decF] at h12
                    have hgd : GoodSv (svT l) (spRec l (svN l)) := by simpa using h12
                    have hok : OkSv l := ⟨h24, hmark, hzero, hn249, hl4, hsum, hgd⟩
                    refine At.callP (fun w hw => must_T _ w) Tryd.call84 rfl rfl ?_
                    refine At.nil ?_
                    refine At.rowIs (i := 0) rfl (fun A13 c14 hv => ?_)
                    subst hv
                    refine At.thenN ?_
                    refine At.seq ?_
                    refine At.region ?_
                    refine At.val (Val.loadAll (i := 3) Tryd.isAgg74 Tryd.sizeOf74 rfl rfl rfl) rfl rfl rfl ?_
                    refine At.storeAll (i := 3) Tryd.sizeOf74 rfl rfl rfl (by simp [Value.oneCell']) rfl rfl ?_
                    simp only [List.set_cons_zero, List.set_cons_succ]
                    refine At.store (i := 2) Tryd.sizeOf26 rfl rfl rfl rfl (by first | decide | simp) ?_
                    simp only [List.set_cons_zero, List.set_cons_succ]
                    refine At.nil ?_
                    refine At.thenN ?_
                    refine At.retC ?_
                    refine At.leaveN (.inl rfl) rfl Tryd.call107 (fun w hw => caughtSaved_idle _ _ w) rfl (ResOf.all (i := 3) Tryd.isAgg74 Tryd.sizeOf74 rfl rfl rfl) (ResOf.one (i := 2) Tryd.isAgg26 rfl rfl rfl) (fun w hw => ?_)
                    exact ⟨(.slice A13 ((spRec l (svN l)).length) c14), by rw [oE_yes hok, oT_yes hok]; try rfl, by rw [oL_yes hok]; exact (hw.drop (List.singleton_sublist.2 (List.mem_of_getElem? (i := 0) rfl))).f0⟩
                  · skip
                    try simp only [vN_T, vN_F, nmE_T, nmE_F, wI_T, wI_F, data_T, data_F, ino_T, ino_F, notT, notF, bneT, bneF, beqT, beqF, decT, decF] at h12
                    have hno : ¬ OkSv l := fun h => absurd h.2.2.2.2.2.2 (by simpa using h12)
                    refine At.callT0 (fun w hw => must_F _ w) Tryd.call84 rfl ?_
                    refine At.thenE ?_
                    refine At.leaveP rfl Tryd.call107 ((erase_perm _ 3 _ rfl).trans (List.Perm.cons _ (erase_perm _ 2 _ rfl))) (fun w hw => caughtSaved_pan _ _ _ _ _ w (hw.blk (i := 0) rfl) rfl (hw.blk (i := 1) rfl) hw.ne01) rfl (ResOf.all (i := 0) Tryd.isAgg74 Tryd.sizeOf74 rfl rfl rfl) (ResOf.one (i := 1) Tryd.isAgg26 rfl rfl rfl) (fun w hw => ?_)
                    exact ⟨.slice none 0 0, by rw [oE_no hno, oT_no hno]; try rfl, by rw [oL_no hno]; exact ((hw.drop (List.nil_sublist _)).f0).nilRow _ _⟩
              · skip
                try simp only [vN_T, vN_F, nmE_T, nmE_F, wI_T, wI_F, data_T, data_F, ino_T, ino_F, notT, notF, bneT, bneF, beqT, beqF, decT, decF] at h7
                have hno : ¬ OkSv l := fun h => h7 (congrArg Int.ofNat h.2.2.2.2.2.1)
                refine At.callT0 (fun w hw => must_F _ w) Tryd.call84 rfl ?_
                refine At.thenE ?_
                refine At.leaveP rfl Tryd.call107 ((erase_perm _ 2 _ rfl).trans (List.Perm.cons _ (erase_perm _ 1 _ rfl))) (fun w hw => caughtSaved_pan _ _ _ _ _ w (hw.blk (i := 0) rfl) rfl (hw.blk (i := 1) rfl) hw.ne01) rfl (ResOf.all (i := 0) Tryd.isAgg74 Tryd.sizeOf74 rfl rfl rfl) (ResOf.one (i := 1) Tryd.isAgg26 rfl rfl rfl) (fun w hw => ?_)
                exact ⟨.slice none 0 0, by rw [oE_no hno, oT_no hno]; try rfl, by rw [oL_no hno]; exact ((hw.drop (List.nil_sublist _)).f0).nilRow _ _⟩
          · skip
            try simp only [vN_T, vN_F, nmE_T, nmE_F, wI_T, wI_F, data_T, data_F, ino_T, ino_F, notT, notF, bneT, bneF, beqT, beqF, decT, decF] at h6
            have hno : ¬ OkSv l := fun h => by have := h.2.2.2.2.1; omega
            refine At.callT0 (fun w hw => must_F _ w) Tryd.call84 rfl ?_
            refine At.thenE ?_
            refine At.leaveP rfl Tryd.call107 ((erase_perm _ 2 _ rfl).trans (List.Perm.cons _ (erase_perm _ 1 _ rfl))) (fun w hw => caughtSaved_pan _ _ _ _ _ w (hw.blk (i := 0) rfl) rfl (hw.blk (i := 1) rfl) hw.ne01) rfl (ResOf.all (i := 0) Tryd.isAgg74 Tryd.sizeOf74 rfl rfl rfl) (ResOf.one (i := 1) Tryd.isAgg26 rfl rfl rfl) (fun w hw => ?_)
            exact ⟨.slice none 0 0, by rw [oE_no hno, oT_no hno]; try rfl, by rw [oL_no hno]; exact ((hw.drop (List.nil_sublist _)).f0).nilRow _ _⟩
        · skip
          try simp only [vN_T, vN_F, nmE_T, nmE_F, wI_T, wI_F, data_T, data_F, ino_T, ino_F, notT, notF, bneT, bneF, beqT, beqF, decT, decF] at h5
          have hno : ¬ OkSv l := fun h => by have := h.2.2.2.1; omega
          refine At.no rfl rfl rfl rfl ?_
          refine At.no rfl rfl rfl rfl ?_
          refine At.no rfl rfl rfl rfl ?_
          refine At.no rfl rfl rfl rfl ?_
          refine At.no rfl rfl rfl rfl ?_
          refine At.no rfl rfl rfl rfl ?_
          refine At.val (Val.pickF rfl rfl) rfl rfl rfl ?_
          refine At.callT0 (fun w hw => must_F _ w) Tryd.call84 rfl ?_
          refine At.thenE ?_
          refine At.leaveP rfl Tryd.call107 ((erase_perm _ 2 _ rfl).trans (List.Perm.cons _ (erase_perm _ 1 _ rfl))) (fun w hw => caughtSaved_pan _ _ _ _ _ w (hw.blk (i := 0) rfl) rfl (hw.blk (i := 1) rfl) hw.ne01) rfl (ResOf.all (i := 0) Tryd.isAgg74 Tryd.sizeOf74 rfl rfl rfl) (ResOf.one (i := 1) Tryd.isAgg26 rfl rfl rfl) (fun w hw => ?_)
          exact ⟨.slice none 0 0, by rw [oE_no hno, oT_no hno]; try rfl, by rw [oL_no hno]; exact ((hw.drop (List.nil_sublist _)).f0).nilRow _ _⟩
      · skip
        have hno : ¬ OkSv l := fun h => hzero h.2.2.1
        refine At.callT1 0 rfl (fun w hw hr => eyeZeros_F _ L o c 12 4 l 36 w hr (hb.mod hw.mod) (hw.newBlk (i := 0) rfl hL) hlc (by omega) (by omega) hzero) Tryd.call88 rfl ?_
        simp only [List.eraseIdx_cons_zero, List.eraseIdx_cons_succ]
        refine At.thenE ?_
        refine At.leaveP rfl Tryd.call107 ((erase_perm _ 1 _ rfl).trans (List.Perm.cons _ (erase_perm _ 0 _ rfl))) (fun w hw => caughtSaved_pan _ _ _ _ _ w (hw.blk (i := 0) rfl) rfl (hw.blk (i := 1) rfl) hw.ne01) rfl (ResOf.all (i := 0) Tryd.isAgg74 Tryd.sizeOf74 rfl rfl rfl) (ResOf.one (i := 1) Tryd.isAgg26 rfl rfl rfl) (fun w hw => ?_)
        exact ⟨.slice none 0 0, by rw [oE_no hno, oT_no hno]; try rfl, by rw [oL_no hno]; exact ((hw.drop (List.nil_sublist _)).f0).nilRow _ _⟩
    · skip
      have hno : ¬ OkSv l := fun h => hmark h.2.1
      refine At.callT1 0 rfl (fun w hw hr => eyeText_F _ L o c 0 l ⟨#[70, 85, 82, 82, 79, 87, 83, 86]⟩ 36 w hr (hb.mod hw.mod) (hw.newBlk (i := 0) rfl hL) hlc (by omega) (by show 0 + 8 ≤ _; omega) hmark) Tryd.call86 rfl ?_
      simp only [List.eraseIdx_cons_zero, List.eraseIdx_cons_succ]
      refine At.thenE ?_
      refine At.leaveP rfl Tryd.call107 ((erase_perm _ 1 _ rfl).trans (List.Perm.cons _ (erase_perm _ 0 _ rfl))) (fun w hw => caughtSaved_pan _ _ _ _ _ w (hw.blk (i := 0) rfl) rfl (hw.blk (i := 1) rfl) hw.ne01) rfl (ResOf.all (i := 0) Tryd.isAgg74 Tryd.sizeOf74 rfl rfl rfl) (ResOf.one (i := 1) Tryd.isAgg26 rfl rfl rfl) (fun w hw => ?_)
      exact ⟨.slice none 0 0, by rw [oE_no hno, oT_no hno]; try rfl, by rw [oL_no hno]; exact ((hw.drop (List.nil_sublist _)).f0).nilRow _ _⟩
  · skip
    try simp only [vN_T, vN_F, nmE_T, nmE_F, wI_T, wI_F, data_T, data_F, ino_T, ino_F, notT, notF, bneT, bneF, beqT, beqF, decT, decF] at h3
    have hno : ¬ OkSv l := fun h => by have := h.1; omega
    refine At.callT0 (fun w hw => must_F _ w) Tryd.call84 rfl ?_
    refine At.thenE ?_
    refine At.leaveP rfl Tryd.call107 ((erase_perm _ 1 _ rfl).trans (List.Perm.cons _ (erase_perm _ 0 _ rfl))) (fun w hw => caughtSaved_pan _ _ _ _ _ w (hw.blk (i := 0) rfl) rfl (hw.blk (i := 1) rfl) hw.ne01) rfl (ResOf.all (i := 0) Tryd.isAgg74 Tryd.sizeOf74 rfl rfl rfl) (ResOf.one (i := 1) Tryd.isAgg26 rfl rfl rfl) (fun w hw => ?_)
    exact ⟨.slice none 0 0, by rw [oE_no hno, oT_no hno]; try rfl, by rw [oL_no hno]; exact ((hw.drop (List.nil_sublist _)).f0).nilRow _ _⟩

end Go.Proofs.YtoiebgnmknbkjaaDoor
