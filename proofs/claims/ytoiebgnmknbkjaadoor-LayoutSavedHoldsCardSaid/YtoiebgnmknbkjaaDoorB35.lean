/- Records that hold; spans made. -/
import Derived.Test.YtoiebgnmknbkjaaDoorB33
import Derived.Test.YtoiebgnmknbkjaaDoorB11
import Derived.Test.YtoiebgnmknbkjaaDoorPq
import Derived.Test.YtoiebgnmknbkjaaDoorWv
set_option linter.unusedVariables false
set_option linter.unusedSimpArgs false
namespace Go.Proofs.YtoiebgnmknbkjaaDoor
open Go Go.Wk

theorem spB_append (a b : List (Int × Int)) : spB (a ++ b) = spB a ++ spB b := by simp [spB]
theorem list_at {α : Type} {L : List α} {j : Nat} {c : α} (h : L[j]? = some c) : L = L.take j ++ [c] ++ L.drop (j + 1) := by
  have hj : j < L.length := (List.getElem?_eq_some_iff.1 h).1
  conv => lhs; rw [← List.take_append_drop j L]
  rw [List.drop_eq_getElem_cons hj, List.append_assoc]
  rw [List.getElem?_eq_getElem hj] at h
  rw [Option.some.inj h]; rfl
theorem svB_at {T : BitVec 32} {S : List (Int × Int)} {j : Nat} {c : Int × Int} (h : S[j]? = some c) (h1 : c.1.toNat < 65536) (h2 : c.2.toNat < 65536) : num (svB T S) (24 + 4 * j) 2 = c.1.toNat ∧ num (svB T S) (24 + 4 * j + 2) 2 = c.2.toNat := by
  have hj : j < S.length := (List.getElem?_eq_some_iff.1 h).1
  have e3 : spB S = spB (S.take j) ++ (le 2 c.1.toNat ++ (le 2 c.2.toNat ++ spB (S.drop (j + 1)))) := by
    conv => lhs; rw [list_at h]
    rw [spB_append, spB_snoc]; simp only [List.append_assoc]
  have e2 : svB T S = (hd20 T S.length ++ le 4 (svSum T S).toNat ++ spB (S.take j)) ++ (le 2 c.1.toNat ++ (le 2 c.2.toNat ++ (spB (S.drop (j + 1)) ++ pad S.length))) := by
    unfold svB
    conv => lhs; rw [e3]
    simp only [List.append_assoc]
  have hl : (hd20 T S.length ++ le 4 (svSum T S).toNat ++ spB (S.take j)).length = 24 + 4 * j := by
    rw [List.length_append, List.length_append, hd20_length, le_length, spB_length, List.length_take]; omega
  refine ⟨num_appV e2 hl (by omega), num_appV (a := (hd20 T S.length ++ le 4 (svSum T S).toNat ++ spB (S.take j)) ++ le 2 c.1.toNat) (b := spB (S.drop (j + 1)) ++ pad S.length) ?_ ?_ (by omega)⟩
  · rw [e2]; simp only [List.append_assoc]
  · rw [List.length_append, hl, le_length]
theorem svB_T (T : BitVec 32) (S : List (Int × Int)) : num (svB T S) 8 4 = T.toNat :=
  num_appV (a := magic) (b := zs 4 ++ le 4 S.length ++ le 4 (svSum T S).toNat ++ spB S ++ pad S.length) (by unfold svB hd20; simp only [List.append_assoc]) rfl (by have := T.isLt; simpa using this)
theorem svB_N (T : BitVec 32) (S : List (Int × Int)) (h : S.length ≤ 249) : num (svB T S) 16 4 = S.length :=
  num_appV (a := magic ++ le 4 T.toNat ++ zs 4) (b := le 4 (svSum T S).toNat ++ spB S ++ pad S.length) (by unfold svB hd20; simp only [List.append_assoc]) (by simp only [List.length_append, le_length, zs_length]; rfl) (by omega)
theorem rec_ok {T : BitVec 32} {S : List (Int × Int)} {l : List UInt8} (hg : GoodSv T S) (hl : 24 + 4 * S.length ≤ l.length) (h : ∀ i, i < 24 + 4 * S.length → l[i]? = (svB T S)[i]?) : OkSv l ∧ svT l = T ∧ spRec l (svN l) = S ∧ svN l = S.length := by
  have h249 := hg.2.1
  have eT : svT l = T := by
    apply BitVec.eq_of_toNat_eq; rw [svT_nat, num_extV (m := svB T S) (fun i _ hi => h i (by omega)), svB_T]
  have eN : svN l = S.length := by unfold svN; rw [num_extV (m := svB T S) (fun i _ hi => h i (by omega)), svB_N T S h249]
  have eS : spRec l (svN l) = S := by
    rw [eN]
    apply List.ext_getElem?
    intro j
    by_cases hj : j < S.length
    · obtain ⟨c, hc⟩ : ∃ c, S[j]? = some c := ⟨_, List.getElem?_eq_getElem hj⟩
      have ho := hg.2.2 j c hj hc
      have hlo := lo_bd (k := j) (fun i d hi hd => hg.2.2 i d (by omega) hd) (by omega)
      unfold OkSp at ho
      have hu := svB_at (T := T) hc (by omega) (by omega)
      rw [hc]
      unfold spRec
      rw [List.getElem?_map, List.getElem?_range hj]
      show some _ = some _
      congr 1
      apply Prod.ext
      · show ((num l (24 + 4 * j) 2 : Nat) : Int) = c.1
        rw [num_extV (m := svB T S) (fun i _ hi => h i (by omega)), hu.1]; omega
      · show ((num l (24 + 4 * j + 2) 2 : Nat) : Int) = c.2
        rw [num_extV (m := svB T S) (fun i _ hi => h i (by omega)), hu.2]; omega
    · rw [List.getElem?_eq_none (by rw [spRec_length]; omega), List.getElem?_eq_none (by omega)]
  refine ⟨sv_back (by omega) (by omega) (by omega) (by rw [eT, eS]; exact hg) (fun i hi => ?_), eT, eS, eN⟩
  rw [eT, eS, svP_T hg]; exact (h i (by omega)).symm
/-- What stands in the record's bytes. -/
def svC (T : BitVec 32) (S : List (Int × Int)) : List UInt8 := ((svB T S).drop 0).take (24 + 4 * S.length - 0)
theorem svC_length (T : BitVec 32) (S : List (Int × Int)) : (svC T S).length = 24 + 4 * S.length := by unfold svC; rw [List.length_take, List.length_drop, svB_length]; omega
theorem svC_at {T : BitVec 32} {S : List (Int × Int)} {i : Nat} (h : i < 24 + 4 * S.length) : (svC T S)[i]? = (svB T S)[i]? := by unfold svC; rw [List.getElem?_take, if_pos (by omega), List.getElem?_drop, Nat.zero_add]
theorem cut_no {T : BitVec 32} {S : List (Int × Int)} {m : Nat} (hg : GoodSv T S) (hm : m < 24 + 4 * S.length) : ¬ OkSv (((svC T S).drop 0).take (m - 0)) := fun h => by
  have hlen : (((svC T S).drop 0).take (m - 0)).length = m := by rw [List.length_take, List.length_drop, svC_length]; omega
  have h24 := h.1
  have hl := h.2.2.2.2.1
  rw [hlen] at h24 hl
  have eN : svN (((svC T S).drop 0).take (m - 0)) = S.length := by
    unfold svN
    rw [num_extV (m := svB T S) (fun i _ hi => by rw [List.getElem?_take, if_pos (by omega), List.getElem?_drop, Nat.zero_add, svC_at (by omega)]), svB_N T S hg.2.1]
  omega
theorem sum_no {l : List UInt8} {l0 : List UInt8} (h : num l 20 4 = (sumOf l0).toNat) (hs : sumOf l ≠ sumOf l0) : ¬ OkSv l := fun k => hs (BitVec.eq_of_toNat_eq (by rw [← k.2.2.2.2.2.1, h]))
theorem svC_parts {T : BitVec 32} {S : List (Int × Int)} : svC T S = (svC T S).take 20 ++ ((svC T S).drop 20).take 4 ++ segV (svC T S) S.length := by
  unfold segV
  have h1 := take_twoV (l := svC T S) 0 20 4
  simp only [List.drop_zero, Nat.zero_add] at h1
  rw [← h1, List.take_of_length_le (l := (svC T S).drop 24) (by rw [List.length_drop, svC_length]; omega), List.take_append_drop]
theorem spoil_no1 {T : BitVec 32} {S : List (Int × Int)} {a F : Nat} (hg : GoodSv T S) (hF : F ≠ 0) (h32 : F < 2 ^ 32) (ha : a + 32 ≤ 128) : ¬ OkSv (spoilL (svC T S) a F) := by
  obtain ⟨hok, _, _, hN⟩ := rec_ok hg (by rw [svC_length]; exact Nat.le_refl _) (fun i hi => svC_at hi)
  have hC := svC_length T S
  have l20 : ((svC T S).take 20).length = 20 := by rw [List.length_take]; omega
  have lsg : (segV (svC T S) S.length).length = 4 * S.length := by unfold segV; rw [List.length_take, List.length_drop]; omega
  have e : spoilL (svC T S) a F = spoilL ((svC T S).take 20) a F ++ (((svC T S).drop 20).take 4 ++ segV (svC T S) S.length) := by
    have := spoil_parts (h := []) (s := (svC T S).take 20) (t := ((svC T S).drop 20).take 4 ++ segV (svC T S) S.length) (a := a) (F := F) (by simp) (by rw [l20]; simp; omega) h32
    simp only [List.nil_append, List.length_nil, Nat.mul_zero, Nat.sub_zero, ← List.append_assoc] at this
    rw [← svC_parts] at this
    rw [this]; simp only [List.append_assoc]
  have e16 : spoilL ((svC T S).take 20) a F = spoilL ((svC T S).take 16) a F ++ ((svC T S).drop 16).take 4 := by
    have h1 := take_twoV (l := svC T S) 0 16 4
    simp only [List.drop_zero, Nat.zero_add] at h1
    have := spoil_parts (h := []) (s := (svC T S).take 16) (t := ((svC T S).drop 16).take 4) (a := a) (F := F) (by simp) (by rw [List.length_take]; simp; omega) h32
    simp only [List.nil_append, List.length_nil, Nat.mul_zero, Nat.sub_zero] at this
    rw [← h1] at this; exact this
  have ls20 : (spoilL ((svC T S).take 20) a F).length = 20 := by rw [spoilL_length, l20]
  have ls16 : (spoilL ((svC T S).take 16) a F).length = 16 := by rw [spoilL_length, List.length_take]; omega
  have l4 : (((svC T S).drop 16).take 4).length = 4 := by rw [List.length_take, List.length_drop]; omega
  have late : ∀ i, 16 ≤ i → (spoilL (svC T S) a F)[i]? = (svC T S)[i]? := fun i hi => by
    rw [e, e16, List.append_assoc]
    rw [List.getElem?_append_right (by omega), ls16]
    have h2 := take_twoV (l := svC T S) 16 4 4
    have h4 : (svC T S).drop 16 = ((svC T S).drop 16).take 4 ++ (((svC T S).drop 20).take 4 ++ segV (svC T S) S.length) := by
      unfold segV
      have h3 := take_twoV (l := svC T S) 16 4 (4 + 4 * S.length)
      have h5 := take_twoV (l := svC T S) 20 4 (4 * S.length)
      rw [← h5, ← h3, List.take_of_length_le (by rw [List.length_drop]; omega)]
    rw [← h4, List.getElem?_drop, show 16 + (i - 16) = i by omega]
  have eN : svN (spoilL (svC T S) a F) = S.length := by rw [← hN]; unfold svN; exact num_extV (fun i hi _ => late i hi)
  refine sum_no (l0 := svC T S) ?_ ?_
  · rw [num_extV (m := svC T S) (fun i hi _ => late i (by omega))]; exact hok.2.2.2.2.2.1
  · unfold sumOf
    rw [eN, hN]
    have e20 : (spoilL (svC T S) a F).take 20 = spoilL ((svC T S).take 20) a F := by rw [e, List.take_left' ls20]
    have esg : segV (spoilL (svC T S) a F) S.length = segV (svC T S) S.length := by
      unfold segV
      apply List.ext_getElem?
      intro i
      rw [List.getElem?_take, List.getElem?_take]
      split
      · rw [List.getElem?_drop, List.getElem?_drop]; exact late _ (by omega)
      · rfl
    rw [e20, esg]
    have := spoil_parts (h := []) (s := (svC T S).take 20) (t := segV (svC T S) S.length) (a := a) (F := F) (by simp) (by rw [l20]; simp; omega) h32
    simp only [List.nil_append, List.length_nil, Nat.mul_zero, Nat.sub_zero] at this
    rw [← this]
    exact spoil_sum hF h32 (by rw [List.length_append, l20, lsg]; omega)
theorem spoil_no2 {T : BitVec 32} {S : List (Int × Int)} {a F : Nat} (hg : GoodSv T S) (hF : F ≠ 0) (h32 : F < 2 ^ 32) (ha : 192 ≤ a) (ha' : a + 32 ≤ 192 + 32 * S.length) : ¬ OkSv (spoilL (svC T S) a F) := by
  obtain ⟨hok, _, _, hN⟩ := rec_ok hg (by rw [svC_length]; exact Nat.le_refl _) (fun i hi => svC_at hi)
  have hC := svC_length T S
  have l20 : ((svC T S).take 20).length = 20 := by rw [List.length_take]; omega
  have l24 : ((svC T S).take 20 ++ ((svC T S).drop 20).take 4).length = 24 := by rw [List.length_append, l20, List.length_take, List.length_drop]; omega
  have lsg : (segV (svC T S) S.length).length = 4 * S.length := by unfold segV; rw [List.length_take, List.length_drop]; omega
  have e : spoilL (svC T S) a F = ((svC T S).take 20 ++ ((svC T S).drop 20).take 4) ++ spoilL (segV (svC T S) S.length) (a - 192) F := by
    have := spoil_parts (h := (svC T S).take 20 ++ ((svC T S).drop 20).take 4) (s := segV (svC T S) S.length) (t := []) (a := a) (F := F) (by rw [l24]; omega) (by rw [l24, lsg]; omega) h32
    simp only [List.append_nil] at this
    rw [← svC_parts, l24] at this
    exact this
  have early : ∀ i, i < 24 → (spoilL (svC T S) a F)[i]? = (svC T S)[i]? := fun i hi => by
    rw [e, List.getElem?_append_left (by omega)]
    conv => rhs; rw [svC_parts, List.getElem?_append_left (by omega)]
  have eN : svN (spoilL (svC T S) a F) = S.length := by rw [← hN]; unfold svN; exact num_extV (fun i _ hi => early i (by omega))
  refine sum_no (l0 := svC T S) ?_ ?_
  · rw [num_extV (m := svC T S) (fun i _ hi => early i (by omega))]; exact hok.2.2.2.2.2.1
  · unfold sumOf
    rw [eN, hN]
    have e20 : (spoilL (svC T S) a F).take 20 = (svC T S).take 20 := by
      apply List.ext_getElem?
      intro i
      rw [List.getElem?_take, List.getElem?_take]
      split
      · exact early i (by omega)
      · rfl
    have esg : segV (spoilL (svC T S) a F) S.length = spoilL (segV (svC T S) S.length) (a - 192) F := by
      conv => lhs; unfold segV
      rw [e, List.drop_left' l24, List.take_of_length_le (by rw [spoilL_length, lsg]; exact Nat.le_refl _)]
    rw [e20, esg]
    have := spoil_parts (h := (svC T S).take 20) (s := segV (svC T S) S.length) (t := []) (a := a - 192 + 160) (F := F) (by rw [l20]; omega) (by rw [l20, lsg]; omega) h32
    simp only [List.append_nil, l20] at this
    rw [show a - 192 + 160 - 8 * 20 = a - 192 by omega] at this
    rw [← this]
    exact spoil_sum hF h32 (by rw [List.length_append, l20, lsg]; omega)
theorem loAt_snoc (S : List (Int × Int)) (c : Int × Int) : loAt (S ++ [c]) (S ++ [c]).length = c.1 + c.2 + 1 := by
  unfold loAt; rw [List.take_of_length_le (Nat.le_refl _)]; simp [loOf]
theorem loAt_all (S : List (Int × Int)) (c : Int × Int) {k : Nat} (h : k ≤ S.length) : loAt (S ++ [c]) k = loAt S k := by
  unfold loAt; rw [List.take_append_of_le_length h]
theorem spK_snoc {S : List (Int × Int)} {c : Int × Int} (h : SpK S S.length) (ho : OkSp (loAt S S.length) c) : SpK (S ++ [c]) (S ++ [c]).length := fun j d hj hd => by
  rw [List.length_append, List.length_singleton] at hj
  rw [loAt_all S c (by omega)]
  rcases Nat.lt_or_ge j S.length with h1 | h1
  · rw [List.getElem?_append_left h1] at hd; exact h j d h1 hd
  · obtain rfl : j = S.length := by omega
    rw [List.getElem?_append_right (Nat.le_refl _), Nat.sub_self] at hd
    obtain rfl := Option.some.inj hd; exact ho

theorem spans_x (v : Value) (L : List (Int × Int)) (w : World) (hv : RdS w v L) (hlen : L.length ≤ 8796093022144) :
    SomeRow Tryd.prog 51 [v] 88 2 (fun nn xs => ∃ S : List (Int × Int), nn = S.length ∧ xs = prS S ∧ S.length ≤ 249 ∧ SpK S S.length) w := by
  obtain ⟨A, cc, rfl, hcl, hl1, hc1, hn1, hs1⟩ := id hv
  refine enter0 Tryd.func51 rfl Tryd.ntmps51 rfl ?_
  simp only [envOf]
  refine At.seq ?_
  refine At.region ?_
  refine At.val (Val.assign rfl) rfl rfl rfl ?_
  refine At.nil ?_
  refine At.thenN ?_
  refine At.seq ?_
  refine At.region ?_
  refine At.val (Val.assign rfl) rfl rfl rfl ?_
  refine At.nil ?_
  refine At.rowNilS 88 ?_
  refine At.thenN ?_
  refine At.seq ?_
  refine At.region ?_
  refine At.val (Val.assign rfl) rfl rfl rfl ?_
  refine At.nil ?_
  refine At.thenN ?_
  refine At.seq ?_
  refine At.seq ?_
  refine At.region ?_
  refine At.val (Val.assign rfl) rfl rfl rfl ?_
  refine At.nil ?_
  refine At.thenN ?_
  refine At.block ?_
  skip
  refine At.loop (σ := Nat × List (Int × Int) × Value) (fun s => s.1 ≤ L.length ∧ s.2.1.length ≤ s.1 ∧ s.2.1.length ≤ 249 ∧ SpK s.2.1 s.2.1.length) (fun s => [(0, (.slice A L.length cc)), (3, s.2.2), (4, .int .i64 (loAt s.2.1 s.2.1.length)), (5, .int .i64 (s.1 : Int))]) (fun s => [srow 88 s.2.2 s.2.1]) (fun s => L.length - s.1) (0, [], .slice none 0 0) ⟨Nat.zero_le _, Nat.le_refl _, Nat.zero_le _, spK_0 []⟩ (Sub.cons rfl (Sub.cons rfl (Sub.cons rfl (Sub.cons rfl Sub.nil)))) (List.Perm.refl _) ?_
  intro s hs
  obtain ⟨k, S, vk⟩ := s
  dsimp only at hs ⊢
  refine At.seq ?_
  refine At.seq ?_
  refine At.region ?_
  refine At.weaken [(0, _), (3, _), (4, _), (5, _)] (Sub.cons rfl (Sub.cons rfl (Sub.cons rfl (Sub.cons rfl Sub.nil)))) ?_
  refine At.boolMeet 9 15 (decide (k < L.length ∧ S.length < 249)) ?_ ?_
  · skip
    simp only [List.take_succ_cons, List.take_zero]
    refine At.val (Val.move rfl) rfl rfl rfl ?_
    refine At.val (Val.move rfl) rfl rfl rfl ?_
    refine At.val (Val.lenRd hv Tryd.underlying72 rfl) rfl rfl rfl ?_
    refine At.val (Val.bin rfl rfl rfl) rfl rfl rfl ?_
    refine At.val (Val.move rfl) rfl rfl rfl ?_
    refine At.split (t := 11) rfl (fun h1 => ?_) (fun h1 => ?_)
    · skip
      try simp only [vN_T, vN_F, nmE_T, nmE_F, wI_T, wI_F, data_T, data_F, ino_T, ino_F, notT, notF, bneT, bneF, beqT, beqF, decT, decF] at h1
      refine At.yes rfl rfl ?_
      refine At.val (Val.move rfl) rfl rfl rfl ?_
      refine At.yes rfl rfl ?_
      refine At.val (Val.lenRow (i := 0) Tryd.underlying72 rfl rfl) rfl rfl rfl ?_
      refine At.yes rfl rfl ?_
      refine At.val (Val.bin rfl rfl rfl) rfl rfl rfl ?_
      refine At.val (Val.pickT rfl rfl) rfl rfl rfl ?_
      refine At.nil ?_
      exact At.boolEnd rfl (by apply Bool.eq_iff_iff.2; simp only [decide_eq_true_eq, Bool.false_eq_true, false_iff, true_iff]; omega) (by repeat (first | exact Sub.nil | refine Sub.cons rfl ?_))
    · skip
      try simp only [vN_T, vN_F, nmE_T, nmE_F, wI_T, wI_F, data_T, data_F, ino_T, ino_F, notT, notF, bneT, bneF, beqT, beqF, decT, decF] at h1
      refine At.no rfl rfl rfl rfl ?_
      refine At.no rfl rfl rfl rfl ?_
      refine At.no rfl rfl rfl rfl ?_
      refine At.val (Val.pickF rfl rfl) rfl rfl rfl ?_
      refine At.nil ?_
      exact At.boolEnd rfl (by apply Bool.eq_iff_iff.2; simp only [decide_eq_true_eq, Bool.false_eq_true, false_iff, true_iff]; omega) (by repeat (first | exact Sub.nil | refine Sub.cons rfl ?_))
  · skip
    simp only [List.drop_succ_cons, List.drop_zero]
    refine At.nil ?_
    refine At.thenN ?_
    refine At.cond rfl (fun h2 => ?_) (fun h2 => ?_)
    · skip
      try simp only [vN_T, vN_F, nmE_T, nmE_F, wI_T, wI_F, data_T, data_F, ino_T, ino_F, notT, notF, bneT, bneF, beqT, beqF, decT, decF] at h2
      have hkk : k < L.length ∧ S.length < 249 := by simpa using h2
      have hlo := lo_bd hs.2.2.2 (Nat.le_refl _)
      obtain ⟨c, hc⟩ : ∃ c, L[k]? = some c := ⟨_, List.getElem?_eq_getElem hkk.1⟩
      have hp := prS_at hc
      obtain ⟨b, o, rfl, hx0⟩ := hcl _ _ hp.1
      obtain ⟨b', o', hbo, hx1⟩ := hcl _ _ hp.2
      obtain ⟨rfl, rfl⟩ : b = b' ∧ o = o' := by simpa using hbo
      rw [← Nat.add_assoc] at hx1
      obtain ⟨oo, hoo⟩ : ∃ oo, oo = o + k * 2 := ⟨_, rfl⟩
      rw [← hoo] at hx0 hx1
      refine At.skipC ?_
      refine At.thenN ?_
      refine At.seq ?_
      refine At.block ?_
      refine At.seq ?_
      apply At.any (t := 18)
      · rfl
      refine KAt.pin (fun w hw => hw.drop (List.Sublist.cons _ (List.Sublist.refl _))) ?_
      refine KAt.take 0 (Val.move rfl) rfl rfl rfl rfl (fun w hw => hw.drop (List.Sublist.cons _ (List.Sublist.refl _))) (by decide +kernel) ?_
      refine KAt.take 1 (Val.move rfl) rfl rfl rfl rfl (fun w hw => hw.drop (List.Sublist.cons _ (List.Sublist.refl _))) (by decide +kernel) ?_
      refine KAt.take 2 (Val.move rfl) rfl rfl rfl rfl (fun w hw => hw.drop (List.Sublist.cons _ (List.Sublist.refl _))) (by decide +kernel) ?_
      refine KAt.take 3 (Val.indexSl (o := o) (n := 2) (len := L.length) (j := (k : Int)) oo (by omega) Tryd.underlying72 Tryd.sizeOf88 rfl rfl (by omega) (by omega)) rfl rfl rfl rfl (fun w hw => hw.drop (List.Sublist.cons _ (List.Sublist.refl _))) (by decide +kernel) ?_
      refine KAt.take 4 (Val.field oo rfl fo_88_0 rfl) rfl rfl rfl rfl (fun w hw => hw.drop (List.Sublist.cons _ (List.Sublist.refl _))) (by decide +kernel) ?_
      refine KAt.take 5 (Val.loadOld Tryd.isAgg3 rfl hx0 (fun h => h)) rfl rfl rfl rfl (fun w hw => hw.drop (List.Sublist.cons _ (List.Sublist.refl _))) (by decide +kernel) ?_
      refine KAt.take 8 (Val.move rfl) rfl rfl rfl rfl (fun w hw => hw.drop (List.Sublist.cons _ (List.Sublist.refl _))) (by decide +kernel) ?_
      refine KAt.take 9 (Val.move rfl) rfl rfl rfl rfl (fun w hw => hw.drop (List.Sublist.cons _ (List.Sublist.refl _))) (by decide +kernel) ?_
      refine KAt.take 10 (Val.indexSl (o := o) (n := 2) (len := L.length) (j := (k : Int)) oo (by omega) Tryd.underlying72 Tryd.sizeOf88 rfl rfl (by omega) (by omega)) rfl rfl rfl rfl (fun w hw => hw.drop (List.Sublist.cons _ (List.Sublist.refl _))) (by decide +kernel) ?_
      refine KAt.take 11 (Val.field (oo + 1) rfl fo_88_1 rfl) rfl rfl rfl rfl (fun w hw => hw.drop (List.Sublist.cons _ (List.Sublist.refl _))) (by decide +kernel) ?_
      refine KAt.take 12 (Val.loadOld Tryd.isAgg3 rfl hx1 (fun h => h)) rfl rfl rfl rfl (fun w hw => hw.drop (List.Sublist.cons _ (List.Sublist.refl _))) (by decide +kernel) ?_
      refine KAt.two 6 16 rfl rfl (by decide +kernel) ?_ ?_
      · skip
        refine At.callP (fun w hw => mod_p _ _ w (by decide) (by decide)) Tryd.call32 rfl rfl ?_
        refine At.nil ?_
        refine KAt.go (fun w hw => hw.drop (List.Sublist.cons _ (List.Sublist.refl _))) ?_
        first | refine KAt.take 7 (Val.addI rfl rfl (by omega) (by omega)) rfl rfl rfl rfl (fun w hw => hw.drop (List.Sublist.cons _ (List.Sublist.refl _))) (by decide +kernel) ?_ | refine KAt.take 7 (Val.bin rfl rfl rfl) rfl rfl rfl rfl (fun w hw => hw.drop (List.Sublist.cons _ (List.Sublist.refl _))) (by decide +kernel) ?_
        refine KAt.two 13 16 rfl rfl (by decide +kernel) ?_ ?_
        · skip
          refine At.callP (fun w hw => mod_p _ _ w (by decide) (by decide)) Tryd.call32 rfl rfl ?_
          refine At.nil ?_
          refine KAt.go (fun w hw => hw.drop (List.Sublist.cons _ (List.Sublist.refl _))) ?_
          first | refine KAt.take 14 (Val.addI rfl rfl (by omega) (by omega)) rfl rfl rfl rfl (fun w hw => hw.drop (List.Sublist.cons _ (List.Sublist.refl _))) (by decide +kernel) ?_ | refine KAt.take 14 (Val.bin rfl rfl rfl) rfl rfl rfl rfl (fun w hw => hw.drop (List.Sublist.cons _ (List.Sublist.refl _))) (by decide +kernel) ?_
          refine KAt.take 15 (Val.build (fun a ha => by simp only [List.map_toArray, List.map_cons, List.map_nil, ha.eval (x := (.tmp 25)) rfl, ha.eval (x := (.tmp 32)) rfl] <;> rfl) (bld_88_0_1 _ _ )) rfl rfl rfl rfl (fun w hw => hw.drop (List.Sublist.cons _ (List.Sublist.refl _))) (by decide +kernel) ?_
          refine KAt.only 16 rfl (by decide +kernel) ?_
          refine At.alloc Tryd.zeroValue88 rfl rfl (fun b3 => ?_)
          refine At.nil ?_
          refine KAt.go (fun w hw => hw.drop (List.Sublist.cons _ (List.Sublist.cons _ (List.Sublist.refl _)))) ?_
          refine KAt.only 17 rfl (by decide +kernel) ?_
          refine At.storeAll (i := 0) Tryd.sizeOf88 rfl rfl rfl (by simp [Value.oneCell']) rfl rfl ?_
          simp only [List.set_cons_zero, List.set_cons_succ]
          refine At.nil ?_
          refine KAt.go (fun w hw => hw.drop (List.Sublist.cons _ (List.Sublist.cons _ (List.Sublist.refl _)))) ?_
          refine KAt.done (by decide +kernel) ?_
          refine At.thenN ?_
          refine At.seq ?_
          refine At.seq ?_
          refine At.region ?_
          refine At.val (Val.field 0 rfl fo_88_0 rfl) rfl rfl rfl ?_
          refine At.val (Val.load (i := 0) Tryd.isAgg3 rfl rfl rfl) rfl rfl rfl ?_
          refine At.val (Val.field 1 rfl fo_88_1 rfl) rfl rfl rfl ?_
          refine At.val (Val.load (i := 0) Tryd.isAgg3 rfl rfl rfl) rfl rfl rfl ?_
          first | refine At.val (Val.addI rfl rfl (by omega) (by omega)) rfl rfl rfl ?_ | refine At.val (Val.bin rfl rfl rfl) rfl rfl rfl ?_
          refine At.val (Val.bin rfl rfl rfl) rfl rfl rfl ?_
          refine At.nil ?_
          refine At.thenN ?_
          refine At.cond rfl (fun h4 => ?_) (fun h4 => ?_)
          · skip
            try simp only [vN_T, vN_F, nmE_T, nmE_F, wI_T, wI_F, data_T, data_F, ino_T, ino_F, notT, notF, bneT, bneF, beqT, beqF, decT, decF] at h4
            refine At.exitC ?_
            refine At.thenX ?_
            refine At.blkY rfl ?_
            refine At.thenX ?_
            refine At.thenX ?_
            refine At.blkX ?_
            refine At.thenN ?_
            refine At.seq ?_
            refine At.region ?_
            refine At.val (Val.move rfl) rfl rfl rfl ?_
            refine At.val (Val.assign rfl) rfl rfl rfl ?_
            refine At.nil ?_
            refine At.thenN ?_
            refine At.retC ?_
            refine At.ret1 (.inl rfl) rfl rfl rfl (fun w hw => ?_)
            exact ⟨vk, _, _, ⟨S, rfl, rfl, hs.2.2.1, hs.2.2.2⟩, rfl, (hw.drop (List.singleton_sublist.2 (List.mem_of_getElem? (i := 1) rfl))).f0⟩
          · skip
            try simp only [vN_T, vN_F, nmE_T, nmE_F, wI_T, wI_F, data_T, data_F, ino_T, ino_F, notT, notF, bneT, bneF, beqT, beqF, decT, decF] at h4
            have ho : OkSp (loAt S S.length) (loAt S S.length + c.1 % 9, 1 + c.2 % 12) := by unfold OkSp; dsimp only; omega
            refine At.skipC ?_
            refine At.thenN ?_
            refine At.seq ?_
            refine At.region ?_
            refine At.val (Val.move rfl) rfl rfl rfl ?_
            refine At.val (Val.loadAll (i := 0) Tryd.isAgg88 Tryd.sizeOf88 rfl rfl rfl) rfl rfl rfl ?_
            refine At.buildSl (fun a ha => by simp only [List.map_toArray, List.map_cons, List.map_nil, ha.eval (x := (.tmp 41)) rfl]; try rfl) (bs_72_1 _ _ ) rfl (fun b5 => ?_)
            refine At.appendS1 (i := 2) (j := 0) (by_ := 16) Tryd.underlying72 info_88 rfl rfl rfl rfl rfl rfl rfl rfl (by omega) (by omega) rfl (fun v6 => ?_)
            simp only [List.set_cons_zero, List.set_cons_succ]
            refine At.drop 0 ?_
            simp only [List.eraseIdx_cons_zero, List.eraseIdx_cons_succ]
            refine At.val (Val.assign rfl) rfl rfl rfl ?_
            refine At.nil ?_
            refine At.thenN ?_
            refine At.region ?_
            refine At.val (Val.field 0 rfl fo_88_0 rfl) rfl rfl rfl ?_
            refine At.val (Val.load (i := 0) Tryd.isAgg3 rfl rfl rfl) rfl rfl rfl ?_
            refine At.val (Val.field 1 rfl fo_88_1 rfl) rfl rfl rfl ?_
            refine At.val (Val.load (i := 0) Tryd.isAgg3 rfl rfl rfl) rfl rfl rfl ?_
            first | refine At.val (Val.addI rfl rfl (by omega) (by omega)) rfl rfl rfl ?_ | refine At.val (Val.bin rfl rfl rfl) rfl rfl rfl ?_
            first | refine At.val (Val.addI rfl rfl (by omega) (by omega)) rfl rfl rfl ?_ | refine At.val (Val.bin rfl rfl rfl) rfl rfl rfl ?_
            refine At.val (Val.assign rfl) rfl rfl rfl ?_
            refine At.nil ?_
            refine At.blkN ?_
            refine At.thenN ?_
            refine At.region ?_
            refine At.val (Val.move rfl) rfl rfl rfl ?_
            first | refine At.val (Val.addI rfl rfl (by omega) (by omega)) rfl rfl rfl ?_ | refine At.val (Val.bin rfl rfl rfl) rfl rfl rfl ?_
            refine At.val (Val.assign rfl) rfl rfl rfl ?_
            refine At.nil ?_
            refine At.thenN ?_
            refine At.drop 0 ?_
            simp only [List.eraseIdx_cons_zero, List.eraseIdx_cons_succ]
            exact At.again (k + 1, S ++ [(loAt S S.length + c.1 % 9, 1 + c.2 % 12)], v6) ⟨(show k + 1 ≤ _ by omega), by dsimp only; rw [List.length_append]; simp; omega, by dsimp only; rw [List.length_append]; simp; omega, spK_snoc hs.2.2.2 ho⟩ (by dsimp only; omega) (Sub.cons rfl (Sub.cons rfl (Sub.cons (congrArg (fun z => some (Value.int IntKind.i64 z)) (by dsimp only; rw [loAt_snoc])) (Sub.cons (congrArg (fun z => some (Value.int IntKind.i64 z)) (by omega)) Sub.nil)))) (List.Perm.refl _)
        · skip
          refine At.alloc Tryd.zeroValue88 rfl rfl (fun b7 => ?_)
          refine At.nil ?_
          refine KAt.go (fun w hw => hw.drop (List.Sublist.cons _ (List.Sublist.cons _ (List.Sublist.refl _)))) ?_
          refine KAt.only 13 rfl (by decide +kernel) ?_
          refine At.callP (fun w hw => mod_p _ _ w (by decide) (by decide)) Tryd.call32 rfl rfl ?_
          refine At.nil ?_
          refine KAt.go (fun w hw => hw.drop (List.Sublist.cons _ (List.Sublist.cons _ (List.Sublist.refl _)))) ?_
          first | refine KAt.take 14 (Val.addI rfl rfl (by omega) (by omega)) rfl rfl rfl rfl (fun w hw => hw.drop (List.Sublist.cons _ (List.Sublist.cons _ (List.Sublist.refl _)))) (by decide +kernel) ?_ | refine KAt.take 14 (Val.bin rfl rfl rfl) rfl rfl rfl rfl (fun w hw => hw.drop (List.Sublist.cons _ (List.Sublist.cons _ (List.Sublist.refl _)))) (by decide +kernel) ?_
          refine KAt.take 15 (Val.build (fun a ha => by simp only [List.map_toArray, List.map_cons, List.map_nil, ha.eval (x := (.tmp 25)) rfl, ha.eval (x := (.tmp 32)) rfl] <;> rfl) (bld_88_0_1 _ _ )) rfl rfl rfl rfl (fun w hw => hw.drop (List.Sublist.cons _ (List.Sublist.cons _ (List.Sublist.refl _)))) (by decide +kernel) ?_
          refine KAt.only 17 rfl (by decide +kernel) ?_
          refine At.storeAll (i := 0) Tryd.sizeOf88 rfl rfl rfl (by simp [Value.oneCell']) rfl rfl ?_
          simp only [List.set_cons_zero, List.set_cons_succ]
          refine At.nil ?_
          refine KAt.go (fun w hw => hw.drop (List.Sublist.cons _ (List.Sublist.cons _ (List.Sublist.refl _)))) ?_
          refine KAt.done (by decide +kernel) ?_
          refine At.thenN ?_
          refine At.seq ?_
          refine At.seq ?_
          refine At.region ?_
          refine At.val (Val.field 0 rfl fo_88_0 rfl) rfl rfl rfl ?_
          refine At.val (Val.load (i := 0) Tryd.isAgg3 rfl rfl rfl) rfl rfl rfl ?_
          refine At.val (Val.field 1 rfl fo_88_1 rfl) rfl rfl rfl ?_
          refine At.val (Val.load (i := 0) Tryd.isAgg3 rfl rfl rfl) rfl rfl rfl ?_
          first | refine At.val (Val.addI rfl rfl (by omega) (by omega)) rfl rfl rfl ?_ | refine At.val (Val.bin rfl rfl rfl) rfl rfl rfl ?_
          refine At.val (Val.bin rfl rfl rfl) rfl rfl rfl ?_
          refine At.nil ?_
          refine At.thenN ?_
          refine At.cond rfl (fun h8 => ?_) (fun h8 => ?_)
          · skip
            try simp only [vN_T, vN_F, nmE_T, nmE_F, wI_T, wI_F, data_T, data_F, ino_T, ino_F, notT, notF, bneT, bneF, beqT, beqF, decT, decF] at h8
            refine At.exitC ?_
            refine At.thenX ?_
            refine At.blkY rfl ?_
            refine At.thenX ?_
            refine At.thenX ?_
            refine At.blkX ?_
            refine At.thenN ?_
            refine At.seq ?_
            refine At.region ?_
            refine At.val (Val.move rfl) rfl rfl rfl ?_
            refine At.val (Val.assign rfl) rfl rfl rfl ?_
            refine At.nil ?_
            refine At.thenN ?_
            refine At.retC ?_
            refine At.ret1 (.inl rfl) rfl rfl rfl (fun w hw => ?_)
            exact ⟨vk, _, _, ⟨S, rfl, rfl, hs.2.2.1, hs.2.2.2⟩, rfl, (hw.drop (List.singleton_sublist.2 (List.mem_of_getElem? (i := 1) rfl))).f0⟩
          · skip
            try simp only [vN_T, vN_F, nmE_T, nmE_F, wI_T, wI_F, data_T, data_F, ino_T, ino_F, notT, notF, bneT, bneF, beqT, beqF, decT, decF] at h8
            have ho : OkSp (loAt S S.length) (loAt S S.length + c.1 % 9, 1 + c.2 % 12) := by unfold OkSp; dsimp only; omega
            refine At.skipC ?_
            refine At.thenN ?_
            refine At.seq ?_
            refine At.region ?_
            refine At.val (Val.move rfl) rfl rfl rfl ?_
            refine At.val (Val.loadAll (i := 0) Tryd.isAgg88 Tryd.sizeOf88 rfl rfl rfl) rfl rfl rfl ?_
            refine At.buildSl (fun a ha => by simp only [List.map_toArray, List.map_cons, List.map_nil, ha.eval (x := (.tmp 41)) rfl]; try rfl) (bs_72_1 _ _ ) rfl (fun b9 => ?_)
            refine At.appendS1 (i := 2) (j := 0) (by_ := 16) Tryd.underlying72 info_88 rfl rfl rfl rfl rfl rfl rfl rfl (by omega) (by omega) rfl (fun v10 => ?_)
            simp only [List.set_cons_zero, List.set_cons_succ]
            refine At.drop 0 ?_
            simp only [List.eraseIdx_cons_zero, List.eraseIdx_cons_succ]
            refine At.val (Val.assign rfl) rfl rfl rfl ?_
            refine At.nil ?_
            refine At.thenN ?_
            refine At.region ?_
            refine At.val (Val.field 0 rfl fo_88_0 rfl) rfl rfl rfl ?_
            refine At.val (Val.load (i := 0) Tryd.isAgg3 rfl rfl rfl) rfl rfl rfl ?_
            refine At.val (Val.field 1 rfl fo_88_1 rfl) rfl rfl rfl ?_
            refine At.val (Val.load (i := 0) Tryd.isAgg3 rfl rfl rfl) rfl rfl rfl ?_
            first | refine At.val (Val.addI rfl rfl (by omega) (by omega)) rfl rfl rfl ?_ | refine At.val (Val.bin rfl rfl rfl) rfl rfl rfl ?_
            first | refine At.val (Val.addI rfl rfl (by omega) (by omega)) rfl rfl rfl ?_ | refine At.val (Val.bin rfl rfl rfl) rfl rfl rfl ?_
            refine At.val (Val.assign rfl) rfl rfl rfl ?_
            refine At.nil ?_
            refine At.blkN ?_
            refine At.thenN ?_
            refine At.region ?_
            refine At.val (Val.move rfl) rfl rfl rfl ?_
            first | refine At.val (Val.addI rfl rfl (by omega) (by omega)) rfl rfl rfl ?_ | refine At.val (Val.bin rfl rfl rfl) rfl rfl rfl ?_
            refine At.val (Val.assign rfl) rfl rfl rfl ?_
            refine At.nil ?_
            refine At.thenN ?_
            refine At.drop 0 ?_
            simp only [List.eraseIdx_cons_zero, List.eraseIdx_cons_succ]
            exact At.again (k + 1, S ++ [(loAt S S.length + c.1 % 9, 1 + c.2 % 12)], v10) ⟨(show k + 1 ≤ _ by omega), by dsimp only; rw [List.length_append]; simp; omega, by dsimp only; rw [List.length_append]; simp; omega, spK_snoc hs.2.2.2 ho⟩ (by dsimp only; omega) (Sub.cons rfl (Sub.cons rfl (Sub.cons (congrArg (fun z => some (Value.int IntKind.i64 z)) (by dsimp only; rw [loAt_snoc])) (Sub.cons (congrArg (fun z => some (Value.int IntKind.i64 z)) (by omega)) Sub.nil)))) (List.Perm.refl _)
      · skip
        refine At.alloc Tryd.zeroValue88 rfl rfl (fun b11 => ?_)
        refine At.nil ?_
        refine KAt.go (fun w hw => hw.drop (List.Sublist.cons _ (List.Sublist.cons _ (List.Sublist.refl _)))) ?_
        refine KAt.only 6 rfl (by decide +kernel) ?_
        refine At.callP (fun w hw => mod_p _ _ w (by decide) (by decide)) Tryd.call32 rfl rfl ?_
        refine At.nil ?_
        refine KAt.go (fun w hw => hw.drop (List.Sublist.cons _ (List.Sublist.cons _ (List.Sublist.refl _)))) ?_
        first | refine KAt.take 7 (Val.addI rfl rfl (by omega) (by omega)) rfl rfl rfl rfl (fun w hw => hw.drop (List.Sublist.cons _ (List.Sublist.cons _ (List.Sublist.refl _)))) (by decide +kernel) ?_ | refine KAt.take 7 (Val.bin rfl rfl rfl) rfl rfl rfl rfl (fun w hw => hw.drop (List.Sublist.cons _ (List.Sublist.cons _ (List.Sublist.refl _)))) (by decide +kernel) ?_
        refine KAt.only 13 rfl (by decide +kernel) ?_
        refine At.callP (fun w hw => mod_p _ _ w (by decide) (by decide)) Tryd.call32 rfl rfl ?_
        refine At.nil ?_
        refine KAt.go (fun w hw => hw.drop (List.Sublist.cons _ (List.Sublist.cons _ (List.Sublist.refl _)))) ?_
        first | refine KAt.take 14 (Val.addI rfl rfl (by omega) (by omega)) rfl rfl rfl rfl (fun w hw => hw.drop (List.Sublist.cons _ (List.Sublist.cons _ (List.Sublist.refl _)))) (by decide +kernel) ?_ | refine KAt.take 14 (Val.bin rfl rfl rfl) rfl rfl rfl rfl (fun w hw => hw.drop (List.Sublist.cons _ (List.Sublist.cons _ (List.Sublist.refl _)))) (by decide +kernel) ?_
        refine KAt.take 15 (Val.build (fun a ha => by simp only [List.map_toArray, List.map_cons, List.map_nil, ha.eval (x := (.tmp 25)) rfl, ha.eval (x := (.tmp 32)) rfl] <;> rfl) (bld_88_0_1 _ _ )) rfl rfl rfl rfl (fun w hw => hw.drop (List.Sublist.cons _ (List.Sublist.cons _ (List.Sublist.refl _)))) (by decide +kernel) ?_
        refine KAt.only 17 rfl (by decide +kernel) ?_
        refine At.storeAll (i := 0) Tryd.sizeOf88 rfl rfl rfl (by simp [Value.oneCell']) rfl rfl ?_
        simp only [List.set_cons_zero, List.set_cons_succ]
        refine At.nil ?_
        refine KAt.go (fun w hw => hw.drop (List.Sublist.cons _ (List.Sublist.cons _ (List.Sublist.refl _)))) ?_
        refine KAt.done (by decide +kernel) ?_
        refine At.thenN ?_
        refine At.seq ?_
        refine At.seq ?_
        refine At.region ?_
        refine At.val (Val.field 0 rfl fo_88_0 rfl) rfl rfl rfl ?_
        refine At.val (Val.load (i := 0) Tryd.isAgg3 rfl rfl rfl) rfl rfl rfl ?_
        refine At.val (Val.field 1 rfl fo_88_1 rfl) rfl rfl rfl ?_
        refine At.val (Val.load (i := 0) Tryd.isAgg3 rfl rfl rfl) rfl rfl rfl ?_
        first | refine At.val (Val.addI rfl rfl (by omega) (by omega)) rfl rfl rfl ?_ | refine At.val (Val.bin rfl rfl rfl) rfl rfl rfl ?_
        refine At.val (Val.bin rfl rfl rfl) rfl rfl rfl ?_
        refine At.nil ?_
        refine At.thenN ?_
        refine At.cond rfl (fun h12 => ?_) (fun h12 => ?_)
        · skip
          try simp only [vN_T, vN_F, nmE_T, nmE_F, wI_T, wI_F, data_T, data_F, ino_T, ino_F, notT, notF, bneT, bneF, beqT, beqF, decT, decF] at h12
          refine At.exitC ?_
          refine At.thenX ?_
          refine At.blkY rfl ?_
          refine At.thenX ?_
          refine At.thenX ?_
          refine At.blkX ?_
          refine At.thenN ?_
          refine At.seq ?_
          refine At.region ?_
          refine At.val (Val.move rfl) rfl rfl rfl ?_
          refine At.val (Val.assign rfl) rfl rfl rfl ?_
          refine At.nil ?_
          refine At.thenN ?_
          refine At.retC ?_
          refine At.ret1 (.inl rfl) rfl rfl rfl (fun w hw => ?_)
          exact ⟨vk, _, _, ⟨S, rfl, rfl, hs.2.2.1, hs.2.2.2⟩, rfl, (hw.drop (List.singleton_sublist.2 (List.mem_of_getElem? (i := 1) rfl))).f0⟩
        · skip
          try simp only [vN_T, vN_F, nmE_T, nmE_F, wI_T, wI_F, data_T, data_F, ino_T, ino_F, notT, notF, bneT, bneF, beqT, beqF, decT, decF] at h12
          have ho : OkSp (loAt S S.length) (loAt S S.length + c.1 % 9, 1 + c.2 % 12) := by unfold OkSp; dsimp only; omega
          refine At.skipC ?_
          refine At.thenN ?_
          refine At.seq ?_
          refine At.region ?_
          refine At.val (Val.move rfl) rfl rfl rfl ?_
          refine At.val (Val.loadAll (i := 0) Tryd.isAgg88 Tryd.sizeOf88 rfl rfl rfl) rfl rfl rfl ?_
          refine At.buildSl (fun a ha => by simp only [List.map_toArray, List.map_cons, List.map_nil, ha.eval (x := (.tmp 41)) rfl]; try rfl) (bs_72_1 _ _ ) rfl (fun b13 => ?_)
          refine At.appendS1 (i := 2) (j := 0) (by_ := 16) Tryd.underlying72 info_88 rfl rfl rfl rfl rfl rfl rfl rfl (by omega) (by omega) rfl (fun v14 => ?_)
          simp only [List.set_cons_zero, List.set_cons_succ]
          refine At.drop 0 ?_
          simp only [List.eraseIdx_cons_zero, List.eraseIdx_cons_succ]
          refine At.val (Val.assign rfl) rfl rfl rfl ?_
          refine At.nil ?_
          refine At.thenN ?_
          refine At.region ?_
          refine At.val (Val.field 0 rfl fo_88_0 rfl) rfl rfl rfl ?_
          refine At.val (Val.load (i := 0) Tryd.isAgg3 rfl rfl rfl) rfl rfl rfl ?_
          refine At.val (Val.field 1 rfl fo_88_1 rfl) rfl rfl rfl ?_
          refine At.val (Val.load (i := 0) Tryd.isAgg3 rfl rfl rfl) rfl rfl rfl ?_
          first | refine At.val (Val.addI rfl rfl (by omega) (by omega)) rfl rfl rfl ?_ | refine At.val (Val.bin rfl rfl rfl) rfl rfl rfl ?_
          first | refine At.val (Val.addI rfl rfl (by omega) (by omega)) rfl rfl rfl ?_ | refine At.val (Val.bin rfl rfl rfl) rfl rfl rfl ?_
          refine At.val (Val.assign rfl) rfl rfl rfl ?_
          refine At.nil ?_
          refine At.blkN ?_
          refine At.thenN ?_
          refine At.region ?_
          refine At.val (Val.move rfl) rfl rfl rfl ?_
          first | refine At.val (Val.addI rfl rfl (by omega) (by omega)) rfl rfl rfl ?_ | refine At.val (Val.bin rfl rfl rfl) rfl rfl rfl ?_
          refine At.val (Val.assign rfl) rfl rfl rfl ?_
          refine At.nil ?_
          refine At.thenN ?_
          refine At.drop 0 ?_
          simp only [List.eraseIdx_cons_zero, List.eraseIdx_cons_succ]
          exact At.again (k + 1, S ++ [(loAt S S.length + c.1 % 9, 1 + c.2 % 12)], v14) ⟨(show k + 1 ≤ _ by omega), by dsimp only; rw [List.length_append]; simp; omega, by dsimp only; rw [List.length_append]; simp; omega, spK_snoc hs.2.2.2 ho⟩ (by dsimp only; omega) (Sub.cons rfl (Sub.cons rfl (Sub.cons (congrArg (fun z => some (Value.int IntKind.i64 z)) (by dsimp only; rw [loAt_snoc])) (Sub.cons (congrArg (fun z => some (Value.int IntKind.i64 z)) (by omega)) Sub.nil)))) (List.Perm.refl _)
    · skip
      try simp only [vN_T, vN_F, nmE_T, nmE_F, wI_T, wI_F, data_T, data_F, ino_T, ino_F, notT, notF, bneT, bneF, beqT, beqF, decT, decF] at h2
      refine At.exitC ?_
      refine At.thenX ?_
      refine At.thenX ?_
      refine At.blkX ?_
      refine At.thenN ?_
      refine At.seq ?_
      refine At.region ?_
      refine At.val (Val.move rfl) rfl rfl rfl ?_
      refine At.val (Val.assign rfl) rfl rfl rfl ?_
      refine At.nil ?_
      refine At.thenN ?_
      refine At.retC ?_
      refine At.ret1 (.inl rfl) rfl rfl rfl (fun w hw => ?_)
      exact ⟨vk, _, _, ⟨S, rfl, rfl, hs.2.2.1, hs.2.2.2⟩, rfl, (hw.drop (List.singleton_sublist.2 (List.mem_of_getElem? (i := 0) rfl))).f0⟩

end Go.Proofs.YtoiebgnmknbkjaaDoor
