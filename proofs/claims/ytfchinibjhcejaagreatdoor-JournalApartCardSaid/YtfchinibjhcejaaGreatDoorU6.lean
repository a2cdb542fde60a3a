/- Parts of the proof, joined: see the law's text. -/
import Derived.Test.YtfchinibjhcejaaGreatDoorU5
import Derived.Test.YtfchinibjhcejaaGreatDoorU3
set_option linter.unusedVariables false
set_option linter.unusedSimpArgs false
namespace Go.Proofs.YtfchinibjhcejaaGreatDoor
open Go Go.Wk
def scrU (k : Nat) (L : List (Int × BitVec 64)) : List (Int × BitVec 64) := (List.range L.length).map fun (j : Nat) => if j < k then (0 - (j : Int) - 1, BitVec.ofNat 64 j) else L.getD j (0, 0)
theorem scrU_length (k : Nat) (L : List (Int × BitVec 64)) : (scrU k L).length = L.length := by simp [scrU]
theorem scrU_get {k j : Nat} {L : List (Int × BitVec 64)} (h : j < L.length) : (scrU k L)[j]? = some (if j < k then (0 - (j : Int) - 1, BitVec.ofNat 64 j) else L.getD j (0, 0)) := by unfold scrU; rw [List.getElem?_map, List.getElem?_range h]; rfl
theorem scrU_0 (L : List (Int × BitVec 64)) : scrU 0 L = L := by
  apply List.ext_getElem?
  intro j
  rcases Nat.lt_or_ge j L.length with h | h
  · rw [scrU_get h, if_neg (Nat.not_lt_zero _), List.getD_eq_getElem?_getD, List.getElem?_eq_getElem h]; rfl
  · rw [List.getElem?_eq_none (by rw [scrU_length]; exact h), List.getElem?_eq_none h]
theorem scrU_set {k : Nat} {L : List (Int × BitVec 64)} (h : k < L.length) : (scrU k L).set k (0 - (k : Int) - 1, BitVec.ofNat 64 k) = scrU (k + 1) L := by
  apply List.ext_getElem?
  intro j
  rcases Nat.lt_or_ge j L.length with hj | hj
  · rw [scrU_get hj]
    by_cases e : j = k
    · subst e
      rw [List.getElem?_set_self (by rw [scrU_length]; exact h), if_pos (by omega)]
    · rw [List.getElem?_set_ne (Ne.symm e), scrU_get hj]
      by_cases hl : j < k
      · rw [if_pos hl, if_pos (by omega)]
      · rw [if_neg hl, if_neg (by omega)]
  · rw [List.getElem?_eq_none (by rw [List.length_set, scrU_length]; exact hj), List.getElem?_eq_none (by rw [scrU_length]; exact hj)]
def scrB (k : Nat) (L : List UInt8) : List UInt8 := (List.range L.length).map fun (j : Nat) => if j < k then UInt8.ofNat (j + 1) else L.getD j 0
theorem scrB_length (k : Nat) (L : List UInt8) : (scrB k L).length = L.length := by simp [scrB]
theorem scrB_get {k j : Nat} {L : List UInt8} (h : j < L.length) : (scrB k L)[j]? = some (if j < k then UInt8.ofNat (j + 1) else L.getD j 0) := by unfold scrB; rw [List.getElem?_map, List.getElem?_range h]; rfl
theorem scrB_0 (L : List UInt8) : scrB 0 L = L := by
  apply List.ext_getElem?
  intro j
  rcases Nat.lt_or_ge j L.length with h | h
  · rw [scrB_get h, if_neg (Nat.not_lt_zero _), List.getD_eq_getElem?_getD, List.getElem?_eq_getElem h]; rfl
  · rw [List.getElem?_eq_none (by rw [scrB_length]; exact h), List.getElem?_eq_none h]
theorem scrB_set {k : Nat} {L : List UInt8} (h : k < L.length) : (scrB k L).set k (UInt8.ofNat (k + 1)) = scrB (k + 1) L := by
  apply List.ext_getElem?
  intro j
  rcases Nat.lt_or_ge j L.length with hj | hj
  · rw [scrB_get hj]
    by_cases e : j = k
    · subst e
      rw [List.getElem?_set_self (by rw [scrB_length]; exact h), if_pos (by omega)]
    · rw [List.getElem?_set_ne (Ne.symm e), scrB_get hj]
      by_cases hl : j < k
      · rw [if_pos hl, if_pos (by omega)]
      · rw [if_neg hl, if_neg (by omega)]
  · rw [List.getElem?_eq_none (by rw [List.length_set, scrB_length]; exact hj), List.getElem?_eq_none (by rw [scrB_length]; exact hj)]
set_option maxHeartbeats 4000000 in
theorem lawApart_p (p i c : Int) (bare : Bool) (vW vU : Value) (W U : List (Int × BitVec 64)) (v : Value) (T : List (Int × BitVec 64)) (x : Value) (T2 : List (Int × BitVec 64)) (w : World) (ht : Tab w) (hvW : RdP w vW W) (hWl : W.length ≤ 8796093022208) (hpb : -9223372036854775808 ≤ p ∧ p ≤ 9223372036854775807) (hv : RdP w v T) (hT : T.length ≤ 140737488355328) (hx : RdP w x T2) (hT2 : T2.length ≤ 140737488355328) :
    PureC Tryz.prog 3 [.agg #[.int .i64 p, .int .i64 i, .int .i64 c, .bool bare, vW, vU], v, x] (.bool true) w := by
 refine enter0 Tryz.func3 rfl Tryz.ntmps3 rfl ?_
 obtain ⟨L, hL⟩ : ∃ L, L = chL (supS p i c).2.1 T := ⟨_, rfl⟩
 obtain ⟨M, hM⟩ : ∃ M, M = chL (supS p i c).2.1 T2 := ⟨_, rfl⟩
 have hgS := supS_good p i c
 have hg2 := hgS
 unfold GoodSup at hg2
 have hsi : 0 < (supS p i c).2.1 ∧ (supS p i c).2.1 ≤ 1000 := by omega
 obtain ⟨hL1, hL8, hLp⟩ : 1 ≤ L.length ∧ L.length ≤ 8 ∧ PlK (supS p i c).2.1 L L.length := by rw [hL]; exact chL_ok hsi.1 T
 obtain ⟨hM1, hM8, hMp⟩ : 1 ≤ M.length ∧ M.length ≤ 8 ∧ PlK (supS p i c).2.1 M M.length := by rw [hM]; exact chL_ok hsi.1 T2
 obtain ⟨la, hla⟩ : ∃ l, l = imgE (supS p i c) false (inT W) L := ⟨_, rfl⟩
 obtain ⟨lb, hlb⟩ : ∃ l, l = imgE (supS p i c) false (inT W) M := ⟨_, rfl⟩
 have htA : Told la (supS p i c) L := by rw [hla, hL]; exact told_img hgS W T
 have htB : Told lb (supS p i c) M := by rw [hlb, hM]; exact told_img hgS W T2
 have hna := htA.nums
 have hnb := htB.nums
 have hoa := htA.olen
 have hob := htB.olen
 simp only [envOf]
 refine tR (At.box rfl rfl rfl (fun b1 => (tA rfl rfl (tE (tR (tV (Val.loadAll (i := 0) Tryz.isAgg27 Tryz.sizeOf27 rfl rfl rfl) rfl (At.callNT (g := (fun v => .tuple #[v, .agg #[.int .i64 (supS p i c).1, .int .i64 (supS p i c).2.1, .int .i64 (supS p i c).2.2, .int .i64 (4 + (supS p i c).2.1 / 8)]])) (fun w hw => clean_n p i c bare vW vU W U w (hvW.mod hw.mod) hWl hpb) Tryz.call11 rfl rfl (fun v2 => (tM rfl rfl (tV (Val.extract rfl rfl) rfl (tV (Val.extract rfl rfl) rfl (At.alloc Tryz.zeroValue31 rfl rfl (fun b3 => (tA rfl rfl (At.storeAll (i := 0) Tryz.sizeOf31 rfl rfl rfl (by simp [Value.oneCell']) rfl rfl ?_)))))))))))))))
 simp only [sc0, scS]
 refine tE (tR (tM rfl rfl (tV (Val.loadAll (i := 0) Tryz.isAgg31 Tryz.sizeOf31 rfl rfl rfl) rfl (At.callN (fun w hw => undosJ_n v T (supS p i c).1 (supS p i c).2.1 (supS p i c).2.2 (4 + (supS p i c).2.1 / 8) w (hv.mod hw.mod) hT hsi) Tryz.call12 rfl rfl (fun v4 => ?_)))))
 rw [← hL]
 refine tA rfl rfl (At.nil (At.rowIs (i := 0) rfl (fun A5 c6 hv => ?_)))
 subst hv
 refine At.thenN (tR (tM rfl rfl (tV (Val.loadAll (i := 1) Tryz.isAgg31 Tryz.sizeOf31 rfl rfl rfl) rfl (At.callN (fun w hw => undosJ_n x T2 (supS p i c).1 (supS p i c).2.1 (supS p i c).2.2 (4 + (supS p i c).2.1 / 8) w (hx.mod hw.mod) hT2 hsi) Tryz.call12 rfl rfl (fun v7 => ?_)))))
 rw [← hM]
 refine tA rfl rfl (At.nil (At.rowIs (i := 0) rfl (fun A8 c9 hv => ?_)))
 subst hv
 refine At.drop 3 ?_
 simp only [ec0, ecS]
 refine At.thenN ?_
 refine At.join (σ := Value) (fun va => True) (fun va => [(3, .pointer (some ⟨b1, 0, none⟩)), (8, .pointer (some ⟨b3, 0, none⟩)), (9, (.slice A5 ((L).length) c6)), (10, (.slice A8 ((M).length) c9)), (11, va), (2, x)]) (fun va => [rowR va 5 1 ((la).length) ((la).map bv), rowR (.slice A8 ((M).length) c9) 45 2 ((M).length) (prC (M)), rowR (.slice A5 ((L).length) c6) 45 2 ((L).length) (prC (L)), blk b3 31 ([.int .i64 (supS p i c).1, .int .i64 (supS p i c).2.1, .int .i64 (supS p i c).2.2, .int .i64 (4 + (supS p i c).2.1 / 8)]), blk b1 27 ([.int .i64 p, .int .i64 i, .int .i64 c, .bool bare, vW, vU])]) ?_ ?_
 ·apply At.any (t := 14)
  · rfl
  refine KAt.pin (fun w hw => hw.drop (List.Sublist.cons _ (List.Sublist.cons _ (List.Sublist.cons _ (List.Sublist.cons_cons _ (List.Sublist.refl _)))))) (KAt.take 0 (Val.field 0 rfl fo_27_0 rfl) rfl rfl rfl rfl (fun w hw => hw.drop (List.Sublist.cons _ (List.Sublist.cons _ (List.Sublist.cons _ (List.Sublist.cons_cons _ (List.Sublist.refl _)))))) (by decide +kernel) (KAt.take 1 (Val.loadPart (i := 0) Tryz.isAgg23 Tryz.sizeOf23 rfl rfl rfl rfl) rfl rfl rfl rfl (fun w hw => hw.drop (List.Sublist.cons _ (List.Sublist.cons _ (List.Sublist.cons _ (List.Sublist.cons_cons _ (List.Sublist.refl _)))))) (by decide +kernel) (KAt.take 2 (Val.field 4 rfl fo_27_2 rfl) rfl rfl rfl rfl (fun w hw => hw.drop (List.Sublist.cons _ (List.Sublist.cons _ (List.Sublist.cons _ (List.Sublist.cons_cons _ (List.Sublist.refl _)))))) (by decide +kernel) (KAt.take 3 (Val.load (i := 0) Tryz.isAgg24 rfl rfl rfl) rfl rfl rfl rfl (fun w hw => hw.drop (List.Sublist.cons _ (List.Sublist.cons _ (List.Sublist.cons _ (List.Sublist.cons_cons _ (List.Sublist.refl _)))))) (by decide +kernel) (KAt.take 5 (Val.move rfl) rfl rfl rfl rfl (fun w hw => hw.drop (List.Sublist.cons _ (List.Sublist.cons _ (List.Sublist.cons _ (List.Sublist.cons_cons _ (List.Sublist.refl _)))))) (by decide +kernel) ?_)))))
  refine KAt.two 4 11 rfl rfl (by decide +kernel) ?_ ?_
  ·refine At.callN (fun w hw => inTable_n vW W w (hvW.mod hw.mod) hWl) Tryz.call13 rfl rfl (fun v10 => (At.rowIs (i := 0) rfl (fun A11 c12 hv => ?_)))
   subst hv
   refine At.nil (KAt.go (fun w hw => hw.drop (List.Sublist.cons _ (List.Sublist.cons _ (List.Sublist.cons _ (List.Sublist.cons _ (List.Sublist.cons_cons _ (List.Sublist.refl _))))))) ?_)
   refine KAt.take 6 (Val.build (fun a ha => by simp only [List.map_toArray, List.map_cons, List.map_nil, ha.eval (x := (.tmp 48)) rfl, ha.eval (x := (.tmp 51)) rfl, ha.eval (x := (.tmp 52)) rfl] <;> rfl) (bld_27_0_2_3 _ _ _ _ _ _ _ _ _ )) rfl rfl rfl rfl (fun w hw => hw.drop (List.Sublist.cons _ (List.Sublist.cons _ (List.Sublist.cons _ (List.Sublist.cons _ (List.Sublist.cons_cons _ (List.Sublist.refl _))))))) (by decide +kernel) ?_
   refine KAt.two 7 11 rfl rfl (by decide +kernel) ?_ ?_
   ·refine At.callNT (g := (fun v => .tuple #[v, .agg #[.int .i64 (supS p i c).1, .int .i64 (supS p i c).2.1, .int .i64 (supS p i c).2.2, .int .i64 (4 + (supS p i c).2.1 / 8)]])) (fun w hw => image_n p i c false _ _ (inT W) L w (row_rd (hw.row (i := 0) rfl) (by decide)) (row_rd (hw.row (i := 2) rfl) (by decide)) (by have := inT_le W; omega) (by omega) hpb) Tryz.call14 rfl rfl (fun v13 => ?_)
    rw [← hla]
    refine At.nil (KAt.go (fun w hw => hw.drop (List.Sublist.cons _ (List.Sublist.cons _ (List.Sublist.cons _ (List.Sublist.cons _ (List.Sublist.cons _ (List.Sublist.cons_cons _ (List.Sublist.refl _)))))))) (KAt.take 8 (Val.move rfl) rfl rfl rfl rfl (fun w hw => hw.drop (List.Sublist.cons _ (List.Sublist.cons _ (List.Sublist.cons _ (List.Sublist.cons _ (List.Sublist.cons _ (List.Sublist.cons_cons _ (List.Sublist.refl _)))))))) (by decide +kernel) (KAt.take 9 (Val.extract rfl rfl) rfl rfl rfl rfl (fun w hw => hw.drop (List.Sublist.cons _ (List.Sublist.cons _ (List.Sublist.cons _ (List.Sublist.cons _ (List.Sublist.cons _ (List.Sublist.cons_cons _ (List.Sublist.refl _)))))))) (by decide +kernel) (KAt.take 10 (Val.extract rfl rfl) rfl rfl rfl rfl (fun w hw => hw.drop (List.Sublist.cons _ (List.Sublist.cons _ (List.Sublist.cons _ (List.Sublist.cons _ (List.Sublist.cons _ (List.Sublist.cons_cons _ (List.Sublist.refl _)))))))) (by decide +kernel) (KAt.only 11 rfl (by decide +kernel) (At.alloc Tryz.zeroValue31 rfl rfl (fun b14 => (At.nil (KAt.go (fun w hw => hw.drop (List.Sublist.cons _ (List.Sublist.cons _ (List.Sublist.cons _ (List.Sublist.cons _ (List.Sublist.cons _ (List.Sublist.cons _ (List.Sublist.cons_cons _ (List.Sublist.refl _))))))))) (KAt.take 12 (Val.assign rfl) rfl rfl rfl rfl (fun w hw => hw.drop (List.Sublist.cons _ (List.Sublist.cons _ (List.Sublist.cons _ (List.Sublist.cons _ (List.Sublist.cons _ (List.Sublist.cons _ (List.Sublist.cons_cons _ (List.Sublist.refl _))))))))) (by decide +kernel) (KAt.only 13 rfl (by decide +kernel) (At.storeAll (i := 0) Tryz.sizeOf31 rfl rfl rfl (by simp [Value.oneCell']) rfl rfl ?_))))))))))))
    simp only [sc0, scS]
    refine At.nil (KAt.go (fun w hw => hw.drop (List.Sublist.cons _ (List.Sublist.cons _ (List.Sublist.cons _ (List.Sublist.cons _ (List.Sublist.cons _ (List.Sublist.cons _ (List.Sublist.cons_cons _ (List.Sublist.refl _))))))))) (KAt.done (by decide +kernel) (At.drop 0 ?_)))
    simp only [ec0, ecS]
    refine At.drop 1 ?_
    simp only [ec0, ecS]
    refine At.thenN ?_
    exact At.meets v13 trivial (Sub.cons rfl (Sub.cons rfl (Sub.cons rfl (Sub.cons rfl (Sub.cons rfl (Sub.cons rfl Sub.nil)))))) (List.Perm.refl _)
   ·refine At.alloc Tryz.zeroValue31 rfl rfl (fun b15 => (At.nil (KAt.go (fun w hw => hw.drop (List.Sublist.cons _ (List.Sublist.cons _ (List.Sublist.cons _ (List.Sublist.cons _ (List.Sublist.cons _ (List.Sublist.cons_cons _ (List.Sublist.refl _)))))))) (KAt.only 7 rfl (by decide +kernel) ?_))))
    refine At.callNT (g := (fun v => .tuple #[v, .agg #[.int .i64 (supS p i c).1, .int .i64 (supS p i c).2.1, .int .i64 (supS p i c).2.2, .int .i64 (4 + (supS p i c).2.1 / 8)]])) (fun w hw => image_n p i c false _ _ (inT W) L w (row_rd (hw.row (i := 1) rfl) (by decide)) (row_rd (hw.row (i := 3) rfl) (by decide)) (by have := inT_le W; omega) (by omega) hpb) Tryz.call14 rfl rfl (fun v16 => ?_)
    rw [← hla]
    refine At.nil (KAt.go (fun w hw => hw.drop (List.Sublist.cons _ (List.Sublist.cons _ (List.Sublist.cons _ (List.Sublist.cons _ (List.Sublist.cons _ (List.Sublist.cons _ (List.Sublist.cons_cons _ (List.Sublist.refl _))))))))) (KAt.take 8 (Val.move rfl) rfl rfl rfl rfl (fun w hw => hw.drop (List.Sublist.cons _ (List.Sublist.cons _ (List.Sublist.cons _ (List.Sublist.cons _ (List.Sublist.cons _ (List.Sublist.cons _ (List.Sublist.cons_cons _ (List.Sublist.refl _))))))))) (by decide +kernel) (KAt.take 9 (Val.extract rfl rfl) rfl rfl rfl rfl (fun w hw => hw.drop (List.Sublist.cons _ (List.Sublist.cons _ (List.Sublist.cons _ (List.Sublist.cons _ (List.Sublist.cons _ (List.Sublist.cons _ (List.Sublist.cons_cons _ (List.Sublist.refl _))))))))) (by decide +kernel) (KAt.take 10 (Val.extract rfl rfl) rfl rfl rfl rfl (fun w hw => hw.drop (List.Sublist.cons _ (List.Sublist.cons _ (List.Sublist.cons _ (List.Sublist.cons _ (List.Sublist.cons _ (List.Sublist.cons _ (List.Sublist.cons_cons _ (List.Sublist.refl _))))))))) (by decide +kernel) (KAt.take 12 (Val.assign rfl) rfl rfl rfl rfl (fun w hw => hw.drop (List.Sublist.cons _ (List.Sublist.cons _ (List.Sublist.cons _ (List.Sublist.cons _ (List.Sublist.cons _ (List.Sublist.cons _ (List.Sublist.cons_cons _ (List.Sublist.refl _))))))))) (by decide +kernel) (KAt.only 13 rfl (by decide +kernel) (At.storeAll (i := 1) Tryz.sizeOf31 rfl rfl rfl (by simp [Value.oneCell']) rfl rfl ?_)))))))
    simp only [sc0, scS]
    refine At.nil (KAt.go (fun w hw => hw.drop (List.Sublist.cons _ (List.Sublist.cons _ (List.Sublist.cons _ (List.Sublist.cons _ (List.Sublist.cons _ (List.Sublist.cons _ (List.Sublist.cons_cons _ (List.Sublist.refl _))))))))) (KAt.done (by decide +kernel) (At.drop 1 ?_)))
    simp only [ec0, ecS]
    refine At.drop 1 ?_
    simp only [ec0, ecS]
    refine At.thenN ?_
    exact At.meets v16 trivial (Sub.cons rfl (Sub.cons rfl (Sub.cons rfl (Sub.cons rfl (Sub.cons rfl (Sub.cons rfl Sub.nil)))))) (List.Perm.refl _)
  ·refine At.alloc Tryz.zeroValue31 rfl rfl (fun b17 => (At.nil (KAt.go (fun w hw => hw.drop (List.Sublist.cons _ (List.Sublist.cons _ (List.Sublist.cons _ (List.Sublist.cons _ (List.Sublist.cons_cons _ (List.Sublist.refl _))))))) (KAt.only 4 rfl (by decide +kernel) (At.callN (fun w hw => inTable_n vW W w (hvW.mod hw.mod) hWl) Tryz.call13 rfl rfl (fun v18 => (At.rowIs (i := 0) rfl (fun A19 c20 hv => ?_))))))))
   subst hv
   refine At.nil (KAt.go (fun w hw => hw.drop (List.Sublist.cons _ (List.Sublist.cons _ (List.Sublist.cons _ (List.Sublist.cons _ (List.Sublist.cons _ (List.Sublist.cons_cons _ (List.Sublist.refl _)))))))) ?_)
   refine KAt.take 6 (Val.build (fun a ha => by simp only [List.map_toArray, List.map_cons, List.map_nil, ha.eval (x := (.tmp 48)) rfl, ha.eval (x := (.tmp 51)) rfl, ha.eval (x := (.tmp 52)) rfl] <;> rfl) (bld_27_0_2_3 _ _ _ _ _ _ _ _ _ )) rfl rfl rfl rfl (fun w hw => hw.drop (List.Sublist.cons _ (List.Sublist.cons _ (List.Sublist.cons _ (List.Sublist.cons _ (List.Sublist.cons _ (List.Sublist.cons_cons _ (List.Sublist.refl _)))))))) (by decide +kernel) (KAt.only 7 rfl (by decide +kernel) ?_)
   refine At.callNT (g := (fun v => .tuple #[v, .agg #[.int .i64 (supS p i c).1, .int .i64 (supS p i c).2.1, .int .i64 (supS p i c).2.2, .int .i64 (4 + (supS p i c).2.1 / 8)]])) (fun w hw => image_n p i c false _ _ (inT W) L w (row_rd (hw.row (i := 0) rfl) (by decide)) (row_rd (hw.row (i := 3) rfl) (by decide)) (by have := inT_le W; omega) (by omega) hpb) Tryz.call14 rfl rfl (fun v21 => ?_)
   rw [← hla]
   refine At.nil (KAt.go (fun w hw => hw.drop (List.Sublist.cons _ (List.Sublist.cons _ (List.Sublist.cons _ (List.Sublist.cons _ (List.Sublist.cons _ (List.Sublist.cons _ (List.Sublist.cons_cons _ (List.Sublist.refl _))))))))) (KAt.take 8 (Val.move rfl) rfl rfl rfl rfl (fun w hw => hw.drop (List.Sublist.cons _ (List.Sublist.cons _ (List.Sublist.cons _ (List.Sublist.cons _ (List.Sublist.cons _ (List.Sublist.cons _ (List.Sublist.cons_cons _ (List.Sublist.refl _))))))))) (by decide +kernel) (KAt.take 9 (Val.extract rfl rfl) rfl rfl rfl rfl (fun w hw => hw.drop (List.Sublist.cons _ (List.Sublist.cons _ (List.Sublist.cons _ (List.Sublist.cons _ (List.Sublist.cons _ (List.Sublist.cons _ (List.Sublist.cons_cons _ (List.Sublist.refl _))))))))) (by decide +kernel) (KAt.take 10 (Val.extract rfl rfl) rfl rfl rfl rfl (fun w hw => hw.drop (List.Sublist.cons _ (List.Sublist.cons _ (List.Sublist.cons _ (List.Sublist.cons _ (List.Sublist.cons _ (List.Sublist.cons _ (List.Sublist.cons_cons _ (List.Sublist.refl _))))))))) (by decide +kernel) (KAt.take 12 (Val.assign rfl) rfl rfl rfl rfl (fun w hw => hw.drop (List.Sublist.cons _ (List.Sublist.cons _ (List.Sublist.cons _ (List.Sublist.cons _ (List.Sublist.cons _ (List.Sublist.cons _ (List.Sublist.cons_cons _ (List.Sublist.refl _))))))))) (by decide +kernel) (KAt.only 13 rfl (by decide +kernel) (At.storeAll (i := 2) Tryz.sizeOf31 rfl rfl rfl (by simp [Value.oneCell']) rfl rfl ?_)))))))
   simp only [sc0, scS]
   refine At.nil (KAt.go (fun w hw => hw.drop (List.Sublist.cons _ (List.Sublist.cons _ (List.Sublist.cons _ (List.Sublist.cons _ (List.Sublist.cons _ (List.Sublist.cons _ (List.Sublist.cons_cons _ (List.Sublist.refl _))))))))) (KAt.done (by decide +kernel) (At.drop 1 ?_)))
   simp only [ec0, ecS]
   refine At.drop 1 ?_
   simp only [ec0, ecS]
   refine At.thenN ?_
   exact At.meets v21 trivial (Sub.cons rfl (Sub.cons rfl (Sub.cons rfl (Sub.cons rfl (Sub.cons rfl (Sub.cons rfl Sub.nil)))))) (List.Perm.refl _)
 ·intro va hs
  clear hs
  refine At.join (σ := Value) (fun vb => True) (fun vb => [(3, .pointer (some ⟨b1, 0, none⟩)), (8, .pointer (some ⟨b3, 0, none⟩)), (9, (.slice A5 ((L).length) c6)), (10, (.slice A8 ((M).length) c9)), (11, va), (13, vb), (2, x)]) (fun vb => [rowR vb 5 1 ((lb).length) ((lb).map bv), rowR va 5 1 ((la).length) ((la).map bv), rowR (.slice A8 ((M).length) c9) 45 2 ((M).length) (prC (M)), rowR (.slice A5 ((L).length) c6) 45 2 ((L).length) (prC (L)), blk b3 31 ([.int .i64 (supS p i c).1, .int .i64 (supS p i c).2.1, .int .i64 (supS p i c).2.2, .int .i64 (4 + (supS p i c).2.1 / 8)]), blk b1 27 ([.int .i64 p, .int .i64 i, .int .i64 c, .bool bare, vW, vU])]) ?_ ?_
  ·apply At.any (t := 14)
   · rfl
   refine KAt.pin (fun w hw => hw.drop (List.Sublist.cons _ (List.Sublist.cons _ (List.Sublist.cons _ (List.Sublist.cons _ (List.Sublist.cons_cons _ (List.Sublist.refl _))))))) (KAt.take 0 (Val.field 0 rfl fo_27_0 rfl) rfl rfl rfl rfl (fun w hw => hw.drop (List.Sublist.cons _ (List.Sublist.cons _ (List.Sublist.cons _ (List.Sublist.cons _ (List.Sublist.cons_cons _ (List.Sublist.refl _))))))) (by decide +kernel) (KAt.take 1 (Val.loadPart (i := 0) Tryz.isAgg23 Tryz.sizeOf23 rfl rfl rfl rfl) rfl rfl rfl rfl (fun w hw => hw.drop (List.Sublist.cons _ (List.Sublist.cons _ (List.Sublist.cons _ (List.Sublist.cons _ (List.Sublist.cons_cons _ (List.Sublist.refl _))))))) (by decide +kernel) (KAt.take 2 (Val.field 4 rfl fo_27_2 rfl) rfl rfl rfl rfl (fun w hw => hw.drop (List.Sublist.cons _ (List.Sublist.cons _ (List.Sublist.cons _ (List.Sublist.cons _ (List.Sublist.cons_cons _ (List.Sublist.refl _))))))) (by decide +kernel) (KAt.take 3 (Val.load (i := 0) Tryz.isAgg24 rfl rfl rfl) rfl rfl rfl rfl (fun w hw => hw.drop (List.Sublist.cons _ (List.Sublist.cons _ (List.Sublist.cons _ (List.Sublist.cons _ (List.Sublist.cons_cons _ (List.Sublist.refl _))))))) (by decide +kernel) (KAt.take 5 (Val.move rfl) rfl rfl rfl rfl (fun w hw => hw.drop (List.Sublist.cons _ (List.Sublist.cons _ (List.Sublist.cons _ (List.Sublist.cons _ (List.Sublist.cons_cons _ (List.Sublist.refl _))))))) (by decide +kernel) ?_)))))
   refine KAt.two 4 11 rfl rfl (by decide +kernel) ?_ ?_
   ·refine At.callN (fun w hw => inTable_n vW W w (hvW.mod hw.mod) hWl) Tryz.call13 rfl rfl (fun v22 => (At.rowIs (i := 0) rfl (fun A23 c24 hv => ?_)))
    subst hv
    refine At.nil (KAt.go (fun w hw => hw.drop (List.Sublist.cons _ (List.Sublist.cons _ (List.Sublist.cons _ (List.Sublist.cons _ (List.Sublist.cons _ (List.Sublist.cons_cons _ (List.Sublist.refl _)))))))) ?_)
    refine KAt.take 6 (Val.build (fun a ha => by simp only [List.map_toArray, List.map_cons, List.map_nil, ha.eval (x := (.tmp 59)) rfl, ha.eval (x := (.tmp 62)) rfl, ha.eval (x := (.tmp 63)) rfl] <;> rfl) (bld_27_0_2_3 _ _ _ _ _ _ _ _ _ )) rfl rfl rfl rfl (fun w hw => hw.drop (List.Sublist.cons _ (List.Sublist.cons _ (List.Sublist.cons _ (List.Sublist.cons _ (List.Sublist.cons _ (List.Sublist.cons_cons _ (List.Sublist.refl _)))))))) (by decide +kernel) ?_
    refine KAt.two 7 11 rfl rfl (by decide +kernel) ?_ ?_
    ·refine At.callNT (g := (fun v => .tuple #[v, .agg #[.int .i64 (supS p i c).1, .int .i64 (supS p i c).2.1, .int .i64 (supS p i c).2.2, .int .i64 (4 + (supS p i c).2.1 / 8)]])) (fun w hw => image_n p i c false _ _ (inT W) M w (row_rd (hw.row (i := 0) rfl) (by decide)) (row_rd (hw.row (i := 2) rfl) (by decide)) (by have := inT_le W; omega) (by omega) hpb) Tryz.call14 rfl rfl (fun v25 => ?_)
     rw [← hlb]
     refine At.nil (KAt.go (fun w hw => hw.drop (List.Sublist.cons _ (List.Sublist.cons _ (List.Sublist.cons _ (List.Sublist.cons _ (List.Sublist.cons _ (List.Sublist.cons _ (List.Sublist.cons_cons _ (List.Sublist.refl _))))))))) (KAt.take 8 (Val.move rfl) rfl rfl rfl rfl (fun w hw => hw.drop (List.Sublist.cons _ (List.Sublist.cons _ (List.Sublist.cons _ (List.Sublist.cons _ (List.Sublist.cons _ (List.Sublist.cons _ (List.Sublist.cons_cons _ (List.Sublist.refl _))))))))) (by decide +kernel) (KAt.take 9 (Val.extract rfl rfl) rfl rfl rfl rfl (fun w hw => hw.drop (List.Sublist.cons _ (List.Sublist.cons _ (List.Sublist.cons _ (List.Sublist.cons _ (List.Sublist.cons _ (List.Sublist.cons _ (List.Sublist.cons_cons _ (List.Sublist.refl _))))))))) (by decide +kernel) (KAt.take 10 (Val.extract rfl rfl) rfl rfl rfl rfl (fun w hw => hw.drop (List.Sublist.cons _ (List.Sublist.cons _ (List.Sublist.cons _ (List.Sublist.cons _ (List.Sublist.cons _ (List.Sublist.cons _ (List.Sublist.cons_cons _ (List.Sublist.refl _))))))))) (by decide +kernel) (KAt.only 11 rfl (by decide +kernel) (At.alloc Tryz.zeroValue31 rfl rfl (fun b26 => (At.nil (KAt.go (fun w hw => hw.drop (List.Sublist.cons _ (List.Sublist.cons _ (List.Sublist.cons _ (List.Sublist.cons _ (List.Sublist.cons _ (List.Sublist.cons _ (List.Sublist.cons _ (List.Sublist.cons_cons _ (List.Sublist.refl _)))))))))) (KAt.take 12 (Val.assign rfl) rfl rfl rfl rfl (fun w hw => hw.drop (List.Sublist.cons _ (List.Sublist.cons _ (List.Sublist.cons _ (List.Sublist.cons _ (List.Sublist.cons _ (List.Sublist.cons _ (List.Sublist.cons _ (List.Sublist.cons_cons _ (List.Sublist.refl _)))))))))) (by decide +kernel) (KAt.only 13 rfl (by decide +kernel) (At.storeAll (i := 0) Tryz.sizeOf31 rfl rfl rfl (by simp [Value.oneCell']) rfl rfl ?_))))))))))))
     simp only [sc0, scS]
     refine At.nil (KAt.go (fun w hw => hw.drop (List.Sublist.cons _ (List.Sublist.cons _ (List.Sublist.cons _ (List.Sublist.cons _ (List.Sublist.cons _ (List.Sublist.cons _ (List.Sublist.cons _ (List.Sublist.cons_cons _ (List.Sublist.refl _)))))))))) (KAt.done (by decide +kernel) (At.drop 0 ?_)))
     simp only [ec0, ecS]
     refine At.drop 1 ?_
     simp only [ec0, ecS]
     refine At.thenN ?_
     exact At.meets v25 trivial (Sub.cons rfl (Sub.cons rfl (Sub.cons rfl (Sub.cons rfl (Sub.cons rfl (Sub.cons rfl (Sub.cons rfl Sub.nil))))))) (List.Perm.refl _)
    ·refine At.alloc Tryz.zeroValue31 rfl rfl (fun b27 => (At.nil (KAt.go (fun w hw => hw.drop (List.Sublist.cons _ (List.Sublist.cons _ (List.Sublist.cons _ (List.Sublist.cons _ (List.Sublist.cons _ (List.Sublist.cons _ (List.Sublist.cons_cons _ (List.Sublist.refl _))))))))) (KAt.only 7 rfl (by decide +kernel) ?_))))
     refine At.callNT (g := (fun v => .tuple #[v, .agg #[.int .i64 (supS p i c).1, .int .i64 (supS p i c).2.1, .int .i64 (supS p i c).2.2, .int .i64 (4 + (supS p i c).2.1 / 8)]])) (fun w hw => image_n p i c false _ _ (inT W) M w (row_rd (hw.row (i := 1) rfl) (by decide)) (row_rd (hw.row (i := 3) rfl) (by decide)) (by have := inT_le W; omega) (by omega) hpb) Tryz.call14 rfl rfl (fun v28 => ?_)
     rw [← hlb]
     refine At.nil (KAt.go (fun w hw => hw.drop (List.Sublist.cons _ (List.Sublist.cons _ (List.Sublist.cons _ (List.Sublist.cons _ (List.Sublist.cons _ (List.Sublist.cons _ (List.Sublist.cons _ (List.Sublist.cons_cons _ (List.Sublist.refl _)))))))))) (KAt.take 8 (Val.move rfl) rfl rfl rfl rfl (fun w hw => hw.drop (List.Sublist.cons _ (List.Sublist.cons _ (List.Sublist.cons _ (List.Sublist.cons _ (List.Sublist.cons _ (List.Sublist.cons _ (List.Sublist.cons _ (List.Sublist.cons_cons _ (List.Sublist.refl _)))))))))) (by decide +kernel) (KAt.take 9 (Val.extract rfl rfl) rfl rfl rfl rfl (fun w hw => hw.drop (List.Sublist.cons _ (List.Sublist.cons _ (List.Sublist.cons _ (List.Sublist.cons _ (List.Sublist.cons _ (List.Sublist.cons _ (List.Sublist.cons _ (List.Sublist.cons_cons _ (List.Sublist.refl _)))))))))) (by decide +kernel) (KAt.take 10 (Val.extract rfl rfl) rfl rfl rfl rfl (fun w hw => hw.drop (List.Sublist.cons _ (List.Sublist.cons _ (List.Sublist.cons _ (List.Sublist.cons _ (List.Sublist.cons _ (List.Sublist.cons _ (List.Sublist.cons _ (List.Sublist.cons_cons _ (List.Sublist.refl _)))))))))) (by decide +kernel) (KAt.take 12 (Val.assign rfl) rfl rfl rfl rfl (fun w hw => hw.drop (List.Sublist.cons _ (List.Sublist.cons _ (List.Sublist.cons _ (List.Sublist.cons _ (List.Sublist.cons _ (List.Sublist.cons _ (List.Sublist.cons _ (List.Sublist.cons_cons _ (List.Sublist.refl _)))))))))) (by decide +kernel) (KAt.only 13 rfl (by decide +kernel) (At.storeAll (i := 1) Tryz.sizeOf31 rfl rfl rfl (by simp [Value.oneCell']) rfl rfl ?_)))))))
     simp only [sc0, scS]
     refine At.nil (KAt.go (fun w hw => hw.drop (List.Sublist.cons _ (List.Sublist.cons _ (List.Sublist.cons _ (List.Sublist.cons _ (List.Sublist.cons _ (List.Sublist.cons _ (List.Sublist.cons _ (List.Sublist.cons_cons _ (List.Sublist.refl _)))))))))) (KAt.done (by decide +kernel) (At.drop 1 ?_)))
     simp only [ec0, ecS]
     refine At.drop 1 ?_
     simp only [ec0, ecS]
     refine At.thenN ?_
     exact At.meets v28 trivial (Sub.cons rfl (Sub.cons rfl (Sub.cons rfl (Sub.cons rfl (Sub.cons rfl (Sub.cons rfl (Sub.cons rfl Sub.nil))))))) (List.Perm.refl _)
   ·refine At.alloc Tryz.zeroValue31 rfl rfl (fun b29 => (At.nil (KAt.go (fun w hw => hw.drop (List.Sublist.cons _ (List.Sublist.cons _ (List.Sublist.cons _ (List.Sublist.cons _ (List.Sublist.cons _ (List.Sublist.cons_cons _ (List.Sublist.refl _)))))))) (KAt.only 4 rfl (by decide +kernel) (At.callN (fun w hw => inTable_n vW W w (hvW.mod hw.mod) hWl) Tryz.call13 rfl rfl (fun v30 => (At.rowIs (i := 0) rfl (fun A31 c32 hv => ?_))))))))
    subst hv
    refine At.nil (KAt.go (fun w hw => hw.drop (List.Sublist.cons _ (List.Sublist.cons _ (List.Sublist.cons _ (List.Sublist.cons _ (List.Sublist.cons _ (List.Sublist.cons _ (List.Sublist.cons_cons _ (List.Sublist.refl _))))))))) ?_)
    refine KAt.take 6 (Val.build (fun a ha => by simp only [List.map_toArray, List.map_cons, List.map_nil, ha.eval (x := (.tmp 59)) rfl, ha.eval (x := (.tmp 62)) rfl, ha.eval (x := (.tmp 63)) rfl] <;> rfl) (bld_27_0_2_3 _ _ _ _ _ _ _ _ _ )) rfl rfl rfl rfl (fun w hw => hw.drop (List.Sublist.cons _ (List.Sublist.cons _ (List.Sublist.cons _ (List.Sublist.cons _ (List.Sublist.cons _ (List.Sublist.cons _ (List.Sublist.cons_cons _ (List.Sublist.refl _))))))))) (by decide +kernel) (KAt.only 7 rfl (by decide +kernel) ?_)
    refine At.callNT (g := (fun v => .tuple #[v, .agg #[.int .i64 (supS p i c).1, .int .i64 (supS p i c).2.1, .int .i64 (supS p i c).2.2, .int .i64 (4 + (supS p i c).2.1 / 8)]])) (fun w hw => image_n p i c false _ _ (inT W) M w (row_rd (hw.row (i := 0) rfl) (by decide)) (row_rd (hw.row (i := 3) rfl) (by decide)) (by have := inT_le W; omega) (by omega) hpb) Tryz.call14 rfl rfl (fun v33 => ?_)
    rw [← hlb]
    refine At.nil (KAt.go (fun w hw => hw.drop (List.Sublist.cons _ (List.Sublist.cons _ (List.Sublist.cons _ (List.Sublist.cons _ (List.Sublist.cons _ (List.Sublist.cons _ (List.Sublist.cons _ (List.Sublist.cons_cons _ (List.Sublist.refl _)))))))))) (KAt.take 8 (Val.move rfl) rfl rfl rfl rfl (fun w hw => hw.drop (List.Sublist.cons _ (List.Sublist.cons _ (List.Sublist.cons _ (List.Sublist.cons _ (List.Sublist.cons _ (List.Sublist.cons _ (List.Sublist.cons _ (List.Sublist.cons_cons _ (List.Sublist.refl _)))))))))) (by decide +kernel) (KAt.take 9 (Val.extract rfl rfl) rfl rfl rfl rfl (fun w hw => hw.drop (List.Sublist.cons _ (List.Sublist.cons _ (List.Sublist.cons _ (List.Sublist.cons _ (List.Sublist.cons _ (List.Sublist.cons _ (List.Sublist.cons _ (List.Sublist.cons_cons _ (List.Sublist.refl _)))))))))) (by decide +kernel) (KAt.take 10 (Val.extract rfl rfl) rfl rfl rfl rfl (fun w hw => hw.drop (List.Sublist.cons _ (List.Sublist.cons _ (List.Sublist.cons _ (List.Sublist.cons _ (List.Sublist.cons _ (List.Sublist.cons _ (List.Sublist.cons _ (List.Sublist.cons_cons _ (List.Sublist.refl _)))))))))) (by decide +kernel) (KAt.take 12 (Val.assign rfl) rfl rfl rfl rfl (fun w hw => hw.drop (List.Sublist.cons _ (List.Sublist.cons _ (List.Sublist.cons _ (List.Sublist.cons _ (List.Sublist.cons _ (List.Sublist.cons _ (List.Sublist.cons _ (List.Sublist.cons_cons _ (List.Sublist.refl _)))))))))) (by decide +kernel) (KAt.only 13 rfl (by decide +kernel) (At.storeAll (i := 2) Tryz.sizeOf31 rfl rfl rfl (by simp [Value.oneCell']) rfl rfl ?_)))))))
    simp only [sc0, scS]
    refine At.nil (KAt.go (fun w hw => hw.drop (List.Sublist.cons _ (List.Sublist.cons _ (List.Sublist.cons _ (List.Sublist.cons _ (List.Sublist.cons _ (List.Sublist.cons _ (List.Sublist.cons _ (List.Sublist.cons_cons _ (List.Sublist.refl _)))))))))) (KAt.done (by decide +kernel) (At.drop 1 ?_)))
    simp only [ec0, ecS]
    refine At.drop 1 ?_
    simp only [ec0, ecS]
    refine At.thenN ?_
    exact At.meets v33 trivial (Sub.cons rfl (Sub.cons rfl (Sub.cons rfl (Sub.cons rfl (Sub.cons rfl (Sub.cons rfl (Sub.cons rfl Sub.nil))))))) (List.Perm.refl _)
  ·intro vb hs
   clear hs
   refine At.join (σ := Value) (fun vk => True) (fun vk => [(8, .pointer (some ⟨b3, 0, none⟩)), (9, (.slice A5 ((L).length) c6)), (10, (.slice A8 ((M).length) c9)), (11, va), (13, vb), (15, vk), (2, x)]) (fun vk => [rowR vk 5 1 ((la).length) ((la).map bv), rowR vb 5 1 ((lb).length) ((lb).map bv), rowR va 5 1 ((la).length) ((la).map bv), rowR (.slice A8 ((M).length) c9) 45 2 ((M).length) (prC (M)), rowR (.slice A5 ((L).length) c6) 45 2 ((L).length) (prC (L)), blk b3 31 ([.int .i64 (supS p i c).1, .int .i64 (supS p i c).2.1, .int .i64 (supS p i c).2.2, .int .i64 (4 + (supS p i c).2.1 / 8)])]) ?_ ?_
   ·apply At.any (t := 14)
    · rfl
    refine KAt.pin (fun w hw => hw.drop (List.Sublist.cons _ (List.Sublist.cons _ (List.Sublist.cons _ (List.Sublist.cons _ (List.Sublist.cons _ (List.Sublist.cons_cons _ (List.Sublist.refl _)))))))) (KAt.take 0 (Val.field 0 rfl fo_27_0 rfl) rfl rfl rfl rfl (fun w hw => hw.drop (List.Sublist.cons _ (List.Sublist.cons _ (List.Sublist.cons _ (List.Sublist.cons _ (List.Sublist.cons _ (List.Sublist.cons_cons _ (List.Sublist.refl _)))))))) (by decide +kernel) (KAt.take 1 (Val.loadPart (i := 0) Tryz.isAgg23 Tryz.sizeOf23 rfl rfl rfl rfl) rfl rfl rfl rfl (fun w hw => hw.drop (List.Sublist.cons _ (List.Sublist.cons _ (List.Sublist.cons _ (List.Sublist.cons _ (List.Sublist.cons _ (List.Sublist.cons_cons _ (List.Sublist.refl _)))))))) (by decide +kernel) (KAt.take 2 (Val.field 4 rfl fo_27_2 rfl) rfl rfl rfl rfl (fun w hw => hw.drop (List.Sublist.cons _ (List.Sublist.cons _ (List.Sublist.cons _ (List.Sublist.cons _ (List.Sublist.cons _ (List.Sublist.cons_cons _ (List.Sublist.refl _)))))))) (by decide +kernel) (KAt.take 3 (Val.load (i := 0) Tryz.isAgg24 rfl rfl rfl) rfl rfl rfl rfl (fun w hw => hw.drop (List.Sublist.cons _ (List.Sublist.cons _ (List.Sublist.cons _ (List.Sublist.cons _ (List.Sublist.cons _ (List.Sublist.cons_cons _ (List.Sublist.refl _)))))))) (by decide +kernel) (KAt.take 5 (Val.move rfl) rfl rfl rfl rfl (fun w hw => hw.drop (List.Sublist.cons _ (List.Sublist.cons _ (List.Sublist.cons _ (List.Sublist.cons _ (List.Sublist.cons _ (List.Sublist.cons_cons _ (List.Sublist.refl _)))))))) (by decide +kernel) ?_)))))
    refine KAt.two 4 11 rfl rfl (by decide +kernel) ?_ ?_
    ·refine At.callN (fun w hw => inTable_n vW W w (hvW.mod hw.mod) hWl) Tryz.call13 rfl rfl (fun v34 => (At.rowIs (i := 0) rfl (fun A35 c36 hv => ?_)))
     subst hv
     refine At.nil (KAt.go (fun w hw => hw.drop (List.Sublist.cons _ (List.Sublist.cons _ (List.Sublist.cons _ (List.Sublist.cons _ (List.Sublist.cons _ (List.Sublist.cons _ (List.Sublist.cons_cons _ (List.Sublist.refl _))))))))) ?_)
     refine KAt.take 6 (Val.build (fun a ha => by simp only [List.map_toArray, List.map_cons, List.map_nil, ha.eval (x := (.tmp 70)) rfl, ha.eval (x := (.tmp 73)) rfl, ha.eval (x := (.tmp 74)) rfl] <;> rfl) (bld_27_0_2_3 _ _ _ _ _ _ _ _ _ )) rfl rfl rfl rfl (fun w hw => hw.drop (List.Sublist.cons _ (List.Sublist.cons _ (List.Sublist.cons _ (List.Sublist.cons _ (List.Sublist.cons _ (List.Sublist.cons _ (List.Sublist.cons_cons _ (List.Sublist.refl _))))))))) (by decide +kernel) ?_
     refine KAt.two 7 11 rfl rfl (by decide +kernel) ?_ ?_
     ·refine At.callNT (g := (fun v => .tuple #[v, .agg #[.int .i64 (supS p i c).1, .int .i64 (supS p i c).2.1, .int .i64 (supS p i c).2.2, .int .i64 (4 + (supS p i c).2.1 / 8)]])) (fun w hw => image_n p i c false _ _ (inT W) L w (row_rd (hw.row (i := 0) rfl) (by decide)) (row_rd (hw.row (i := 4) rfl) (by decide)) (by have := inT_le W; omega) (by omega) hpb) Tryz.call14 rfl rfl (fun v37 => ?_)
      rw [← hla]
      refine At.nil (KAt.go (fun w hw => hw.drop (List.Sublist.cons _ (List.Sublist.cons _ (List.Sublist.cons _ (List.Sublist.cons _ (List.Sublist.cons _ (List.Sublist.cons _ (List.Sublist.cons _ (List.Sublist.cons_cons _ (List.Sublist.refl _)))))))))) (KAt.take 8 (Val.move rfl) rfl rfl rfl rfl (fun w hw => hw.drop (List.Sublist.cons _ (List.Sublist.cons _ (List.Sublist.cons _ (List.Sublist.cons _ (List.Sublist.cons _ (List.Sublist.cons _ (List.Sublist.cons _ (List.Sublist.cons_cons _ (List.Sublist.refl _)))))))))) (by decide +kernel) (KAt.take 9 (Val.extract rfl rfl) rfl rfl rfl rfl (fun w hw => hw.drop (List.Sublist.cons _ (List.Sublist.cons _ (List.Sublist.cons _ (List.Sublist.cons _ (List.Sublist.cons _ (List.Sublist.cons _ (List.Sublist.cons _ (List.Sublist.cons_cons _ (List.Sublist.refl _)))))))))) (by decide +kernel) (KAt.take 10 (Val.extract rfl rfl) rfl rfl rfl rfl (fun w hw => hw.drop (List.Sublist.cons _ (List.Sublist.cons _ (List.Sublist.cons _ (List.Sublist.cons _ (List.Sublist.cons _ (List.Sublist.cons _ (List.Sublist.cons _ (List.Sublist.cons_cons _ (List.Sublist.refl _)))))))))) (by decide +kernel) (KAt.only 11 rfl (by decide +kernel) (At.alloc Tryz.zeroValue31 rfl rfl (fun b38 => (At.nil (KAt.go (fun w hw => hw.drop (List.Sublist.cons _ (List.Sublist.cons _ (List.Sublist.cons _ (List.Sublist.cons _ (List.Sublist.cons _ (List.Sublist.cons _ (List.Sublist.cons _ (List.Sublist.cons _ (List.Sublist.cons_cons _ (List.Sublist.refl _))))))))))) (KAt.take 12 (Val.assign rfl) rfl rfl rfl rfl (fun w hw => hw.drop (List.Sublist.cons _ (List.Sublist.cons _ (List.Sublist.cons _ (List.Sublist.cons _ (List.Sublist.cons _ (List.Sublist.cons _ (List.Sublist.cons _ (List.Sublist.cons _ (List.Sublist.cons_cons _ (List.Sublist.refl _))))))))))) (by decide +kernel) (KAt.only 13 rfl (by decide +kernel) (At.storeAll (i := 0) Tryz.sizeOf31 rfl rfl rfl (by simp [Value.oneCell']) rfl rfl ?_))))))))))))
      simp only [sc0, scS]
      refine At.nil (KAt.go (fun w hw => hw.drop (List.Sublist.cons _ (List.Sublist.cons _ (List.Sublist.cons _ (List.Sublist.cons _ (List.Sublist.cons _ (List.Sublist.cons _ (List.Sublist.cons _ (List.Sublist.cons _ (List.Sublist.cons_cons _ (List.Sublist.refl _))))))))))) (KAt.done (by decide +kernel) (At.drop 0 ?_)))
      simp only [ec0, ecS]
      refine At.drop 1 ?_
      simp only [ec0, ecS]
      refine At.drop 6 ?_
      simp only [ec0, ecS]
      refine At.thenN ?_
      exact At.meets v37 trivial (Sub.cons rfl (Sub.cons rfl (Sub.cons rfl (Sub.cons rfl (Sub.cons rfl (Sub.cons rfl (Sub.cons rfl Sub.nil))))))) (List.Perm.refl _)
     ·refine At.alloc Tryz.zeroValue31 rfl rfl (fun b39 => (At.nil (KAt.go (fun w hw => hw.drop (List.Sublist.cons _ (List.Sublist.cons _ (List.Sublist.cons _ (List.Sublist.cons _ (List.Sublist.cons _ (List.Sublist.cons _ (List.Sublist.cons _ (List.Sublist.cons_cons _ (List.Sublist.refl _)))))))))) (KAt.only 7 rfl (by decide +kernel) ?_))))
      refine At.callNT (g := (fun v => .tuple #[v, .agg #[.int .i64 (supS p i c).1, .int .i64 (supS p i c).2.1, .int .i64 (supS p i c).2.2, .int .i64 (4 + (supS p i c).2.1 / 8)]])) (fun w hw => image_n p i c false _ _ (inT W) L w (row_rd (hw.row (i := 1) rfl) (by decide)) (row_rd (hw.row (i := 5) rfl) (by decide)) (by have := inT_le W; omega) (by omega) hpb) Tryz.call14 rfl rfl (fun v40 => ?_)
      rw [← hla]
      refine At.nil (KAt.go (fun w hw => hw.drop (List.Sublist.cons _ (List.Sublist.cons _ (List.Sublist.cons _ (List.Sublist.cons _ (List.Sublist.cons _ (List.Sublist.cons _ (List.Sublist.cons _ (List.Sublist.cons _ (List.Sublist.cons_cons _ (List.Sublist.refl _))))))))))) (KAt.take 8 (Val.move rfl) rfl rfl rfl rfl (fun w hw => hw.drop (List.Sublist.cons _ (List.Sublist.cons _ (List.Sublist.cons _ (List.Sublist.cons _ (List.Sublist.cons _ (List.Sublist.cons _ (List.Sublist.cons _ (List.Sublist.cons _ (List.Sublist.cons_cons _ (List.Sublist.refl _))))))))))) (by decide +kernel) (KAt.take 9 (Val.extract rfl rfl) rfl rfl rfl rfl (fun w hw => hw.drop (List.Sublist.cons _ (List.Sublist.cons _ (List.Sublist.cons _ (List.Sublist.cons _ (List.Sublist.cons _ (List.Sublist.cons _ (List.Sublist.cons _ (List.Sublist.cons _ (List.Sublist.cons_cons _ (List.Sublist.refl _))))))))))) (by decide +kernel) (KAt.take 10 (Val.extract rfl rfl) rfl rfl rfl rfl (fun w hw => hw.drop (List.Sublist.cons _ (List.Sublist.cons _ (List.Sublist.cons _ (List.Sublist.cons _ (List.Sublist.cons _ (List.Sublist.cons _ (List.Sublist.cons _ (List.Sublist.cons _ (List.Sublist.cons_cons _ (List.Sublist.refl _))))))))))) (by decide +kernel) (KAt.take 12 (Val.assign rfl) rfl rfl rfl rfl (fun w hw => hw.drop (List.Sublist.cons _ (List.Sublist.cons _ (List.Sublist.cons _ (List.Sublist.cons _ (List.Sublist.cons _ (List.Sublist.cons _ (List.Sublist.cons _ (List.Sublist.cons _ (List.Sublist.cons_cons _ (List.Sublist.refl _))))))))))) (by decide +kernel) (KAt.only 13 rfl (by decide +kernel) (At.storeAll (i := 1) Tryz.sizeOf31 rfl rfl rfl (by simp [Value.oneCell']) rfl rfl ?_)))))))
      simp only [sc0, scS]
      refine At.nil (KAt.go (fun w hw => hw.drop (List.Sublist.cons _ (List.Sublist.cons _ (List.Sublist.cons _ (List.Sublist.cons _ (List.Sublist.cons _ (List.Sublist.cons _ (List.Sublist.cons _ (List.Sublist.cons _ (List.Sublist.cons_cons _ (List.Sublist.refl _))))))))))) (KAt.done (by decide +kernel) (At.drop 1 ?_)))
      simp only [ec0, ecS]
      refine At.drop 1 ?_
      simp only [ec0, ecS]
      refine At.drop 6 ?_
      simp only [ec0, ecS]
      refine At.thenN ?_
      exact At.meets v40 trivial (Sub.cons rfl (Sub.cons rfl (Sub.cons rfl (Sub.cons rfl (Sub.cons rfl (Sub.cons rfl (Sub.cons rfl Sub.nil))))))) (List.Perm.refl _)
    ·refine At.alloc Tryz.zeroValue31 rfl rfl (fun b41 => (At.nil (KAt.go (fun w hw => hw.drop (List.Sublist.cons _ (List.Sublist.cons _ (List.Sublist.cons _ (List.Sublist.cons _ (List.Sublist.cons _ (List.Sublist.cons _ (List.Sublist.cons_cons _ (List.Sublist.refl _))))))))) (KAt.only 4 rfl (by decide +kernel) (At.callN (fun w hw => inTable_n vW W w (hvW.mod hw.mod) hWl) Tryz.call13 rfl rfl (fun v42 => (At.rowIs (i := 0) rfl (fun A43 c44 hv => ?_))))))))
     subst hv
     refine At.nil (KAt.go (fun w hw => hw.drop (List.Sublist.cons _ (List.Sublist.cons _ (List.Sublist.cons _ (List.Sublist.cons _ (List.Sublist.cons _ (List.Sublist.cons _ (List.Sublist.cons _ (List.Sublist.cons_cons _ (List.Sublist.refl _)))))))))) ?_)
     refine KAt.take 6 (Val.build (fun a ha => by simp only [List.map_toArray, List.map_cons, List.map_nil, ha.eval (x := (.tmp 70)) rfl, ha.eval (x := (.tmp 73)) rfl, ha.eval (x := (.tmp 74)) rfl] <;> rfl) (bld_27_0_2_3 _ _ _ _ _ _ _ _ _ )) rfl rfl rfl rfl (fun w hw => hw.drop (List.Sublist.cons _ (List.Sublist.cons _ (List.Sublist.cons _ (List.Sublist.cons _ (List.Sublist.cons _ (List.Sublist.cons _ (List.Sublist.cons _ (List.Sublist.cons_cons _ (List.Sublist.refl _)))))))))) (by decide +kernel) (KAt.only 7 rfl (by decide +kernel) ?_)
     refine At.callNT (g := (fun v => .tuple #[v, .agg #[.int .i64 (supS p i c).1, .int .i64 (supS p i c).2.1, .int .i64 (supS p i c).2.2, .int .i64 (4 + (supS p i c).2.1 / 8)]])) (fun w hw => image_n p i c false _ _ (inT W) L w (row_rd (hw.row (i := 0) rfl) (by decide)) (row_rd (hw.row (i := 5) rfl) (by decide)) (by have := inT_le W; omega) (by omega) hpb) Tryz.call14 rfl rfl (fun v45 => ?_)
     rw [← hla]
     refine At.nil (KAt.go (fun w hw => hw.drop (List.Sublist.cons _ (List.Sublist.cons _ (List.Sublist.cons _ (List.Sublist.cons _ (List.Sublist.cons _ (List.Sublist.cons _ (List.Sublist.cons _ (List.Sublist.cons _ (List.Sublist.cons_cons _ (List.Sublist.refl _))))))))))) (KAt.take 8 (Val.move rfl) rfl rfl rfl rfl (fun w hw => hw.drop (List.Sublist.cons _ (List.Sublist.cons _ (List.Sublist.cons _ (List.Sublist.cons _ (List.Sublist.cons _ (List.Sublist.cons _ (List.Sublist.cons _ (List.Sublist.cons _ (List.Sublist.cons_cons _ (List.Sublist.refl _))))))))))) (by decide +kernel) (KAt.take 9 (Val.extract rfl rfl) rfl rfl rfl rfl (fun w hw => hw.drop (List.Sublist.cons _ (List.Sublist.cons _ (List.Sublist.cons _ (List.Sublist.cons _ (List.Sublist.cons _ (List.Sublist.cons _ (List.Sublist.cons _ (List.Sublist.cons _ (List.Sublist.cons_cons _ (List.Sublist.refl _))))))))))) (by decide +kernel) (KAt.take 10 (Val.extract rfl rfl) rfl rfl rfl rfl (fun w hw => hw.drop (List.Sublist.cons _ (List.Sublist.cons _ (List.Sublist.cons _ (List.Sublist.cons _ (List.Sublist.cons _ (List.Sublist.cons _ (List.Sublist.cons _ (List.Sublist.cons _ (List.Sublist.cons_cons _ (List.Sublist.refl _))))))))))) (by decide +kernel) (KAt.take 12 (Val.assign rfl) rfl rfl rfl rfl (fun w hw => hw.drop (List.Sublist.cons _ (List.Sublist.cons _ (List.Sublist.cons _ (List.Sublist.cons _ (List.Sublist.cons _ (List.Sublist.cons _ (List.Sublist.cons _ (List.Sublist.cons _ (List.Sublist.cons_cons _ (List.Sublist.refl _))))))))))) (by decide +kernel) (KAt.only 13 rfl (by decide +kernel) (At.storeAll (i := 2) Tryz.sizeOf31 rfl rfl rfl (by simp [Value.oneCell']) rfl rfl ?_)))))))
     simp only [sc0, scS]
     refine At.nil (KAt.go (fun w hw => hw.drop (List.Sublist.cons _ (List.Sublist.cons _ (List.Sublist.cons _ (List.Sublist.cons _ (List.Sublist.cons _ (List.Sublist.cons _ (List.Sublist.cons _ (List.Sublist.cons _ (List.Sublist.cons_cons _ (List.Sublist.refl _))))))))))) (KAt.done (by decide +kernel) (At.drop 1 ?_)))
     simp only [ec0, ecS]
     refine At.drop 1 ?_
     simp only [ec0, ecS]
     refine At.drop 6 ?_
     simp only [ec0, ecS]
     refine At.thenN ?_
     exact At.meets v45 trivial (Sub.cons rfl (Sub.cons rfl (Sub.cons rfl (Sub.cons rfl (Sub.cons rfl (Sub.cons rfl (Sub.cons rfl Sub.nil))))))) (List.Perm.refl _)
   ·intro vk hs
    clear hs
    refine tR (tM rfl rfl (At.callNT (g := (fun v => .tuple #[v, .int .i64 (pndE la)])) (fun w hw => pending_n _ la w (ht.mod hw.mod) (row_rd (hw.row (i := 2) rfl) (by decide)) (by omega)) Tryz.call15 rfl rfl (fun v46 => ?_)))
    rw [htA.pnd.1, htA.pnd.2]
    refine tM rfl rfl (tV (Val.extract rfl rfl) rfl (tV (Val.extract rfl rfl) rfl (tA rfl rfl (tA rfl rfl (tE (tR (tM rfl rfl (At.callNT (g := (fun v => .tuple #[v, .int .i64 (pndE la)])) (fun w hw => overlay_n _ la w (ht.mod hw.mod) (row_rd (hw.row (i := 3) rfl) (by decide)) (by omega)) Tryz.call16 rfl rfl (fun v47 => ?_)))))))))
    rw [htA.pnd.1]
    refine tM rfl rfl (tV (Val.extract rfl rfl) rfl (tV (Val.extract rfl rfl) rfl (tA rfl rfl (tA rfl rfl (tE (At.seq (tR (tM rfl rfl (tV (Val.bin rfl rfl rfl) rfl (tM rfl rfl (At.yes rfl rfl (tM rfl rfl (At.yes rfl rfl (tV (Val.bin rfl rfl rfl) rfl (tV (Val.pickF rfl rfl) rfl (tM rfl rfl (At.yes rfl rfl (tM rfl rfl (At.yes rfl rfl (tM rfl rfl (At.yes rfl rfl (At.callP (fun w hw => sameUnJ_p _ _ L w (row_rd (hw.row (i := 1) rfl) (by decide)) (row_rd (hw.row (i := 6) rfl) (by decide)) (by omega)) Tryz.call17 rfl rfl (At.yes rfl rfl (tV (Val.not rfl) rfl (tV (Val.pickF rfl rfl) rfl (tM rfl rfl (At.yes rfl rfl (tM rfl rfl (At.yes rfl rfl (tV (Val.lenRow (i := 0) Tryz.underlying29 rfl rfl) rfl (At.yes rfl rfl (tM rfl rfl (At.yes rfl rfl (tV (Val.lenRow (i := 4) Tryz.underlying29 rfl rfl) rfl (At.yes rfl rfl (tV (Val.bin rfl rfl rfl) rfl ?_))))))))))))))))))))))))))))))))))))
    rw [show (((ovR la).length : Nat) : Int) = (la.length : Nat) from by rw [hoa], bne_self_eq_false]
    refine tV (Val.pickF rfl rfl) rfl (tE (At.condF rfl (At.skipC (At.thenN (At.seq (tR (tA rfl rfl (tE (At.block ?_)))))))))
    skip
    refine At.loop (σ := Nat) (fun k => k ≤ L.length) (fun k => [(8, .pointer (some ⟨b3, 0, none⟩)), (9, (.slice A5 ((L).length) c6)), (10, (.slice A8 ((M).length) c9)), (11, va), (13, vb), (15, vk), (17, v46), (19, v47), (2, x), (21, .int .i64 (k : Int))]) (fun k => [rowR v47 5 1 (((ovR la)).length) (((ovR la)).map bv), rowR v46 45 2 (((scrU k L)).length) (prC ((scrU k L))), rowR vk 5 1 ((la).length) ((la).map bv), rowR vb 5 1 ((lb).length) ((lb).map bv), rowR va 5 1 ((la).length) ((la).map bv), rowR (.slice A8 ((M).length) c9) 45 2 ((M).length) (prC (M)), rowR (.slice A5 ((L).length) c6) 45 2 ((L).length) (prC (L)), blk b3 31 ([.int .i64 (supS p i c).1, .int .i64 (supS p i c).2.1, .int .i64 (supS p i c).2.2, .int .i64 (4 + (supS p i c).2.1 / 8)])]) (fun k => L.length - k) 0 (Nat.zero_le _) (Sub.cons rfl (Sub.cons rfl (Sub.cons rfl (Sub.cons rfl (Sub.cons rfl (Sub.cons rfl (Sub.cons rfl (Sub.cons rfl (Sub.cons rfl (Sub.cons rfl Sub.nil)))))))))) (by rw [scrU_0]) ?_
    intro k hs
    have hsl := scrU_length k L
    refine At.seq (tR (tM rfl rfl (tM rfl rfl (tV (Val.lenRow (i := 1) Tryz.underlying25 rfl rfl) rfl (tV (Val.bin rfl rfl rfl) rfl (tE ?_))))))
    refine At.cond rfl (fun h48 => ?_) (fun h48 => ?_)
    ·try simp only [hasB, isSizeB, sB] at h48
     refine At.skipC (At.thenN (At.seq (At.block (At.region (tM rfl rfl (tM rfl rfl (tM rfl rfl (tV (Val.neg rfl) rfl ?_))))))))
     rw [wrap_i64 (by omega) (by omega)]
     first | refine tV (Val.subI rfl rfl (by omega) (by omega)) rfl ?_ | refine tV (Val.bin rfl rfl rfl) rfl ?_
     refine tM rfl rfl (tV (Val.conv Tryz.underlying3 Tryz.underlying43 rfl) rfl ?_)
     rw [wrap_u64_nat]
     refine tV (Val.build (fun a ha => by simp only [List.map_toArray, List.map_cons, List.map_nil, ha.eval (x := (.tmp 118)) rfl, ha.eval (x := (.tmp 120)) rfl] <;> rfl) (bld_45_0_1 _ _ )) rfl (tV (Val.indexRow (i := 1) (k * 2) (by omega) Tryz.underlying25 Tryz.sizeOf45 rfl rfl rfl (by omega) (by omega)) rfl (At.storePairRow (i := 1) (k := k) (b := BitVec.ofNat 64 k) Tryz.sizeOf45 rfl rfl rfl (by omega) ?_))
     simp only [sc0, scS]
     rw [scrU_set (by omega)]
     refine At.nil (At.blkN (At.thenN (At.region (tM rfl rfl ?_))))
     first | refine tV (Val.addI rfl rfl (by omega) (by omega)) rfl ?_ | refine tV (Val.bin rfl rfl rfl) rfl ?_
     refine tA rfl rfl (tE ?_)
     exact At.again (k + 1) (show k + 1 ≤ _ by omega) (by omega) (Sub.cons rfl (Sub.cons rfl (Sub.cons rfl (Sub.cons rfl (Sub.cons rfl (Sub.cons rfl (Sub.cons rfl (Sub.cons rfl (Sub.cons rfl (Sub.cons (congrArg (fun z => some (Value.int IntKind.i64 z)) (by omega)) Sub.nil)))))))))) (List.Perm.refl _)
    ·try simp only [hasB, isSizeB, sB] at h48
     refine At.exitC (At.thenX (At.thenX (At.blkX (At.thenN (At.seq ?_)))))
     obtain rfl : k = L.length := by omega
     obtain ⟨D, hD⟩ : ∃ D, D = scrU L.length L := ⟨_, rfl⟩
     have hDl : D.length = L.length := by rw [hD]; exact hsl
     have hDa : ∀ j : Nat, j < L.length → D[j]? = some (0 - (j : Int) - 1, BitVec.ofNat 64 j) := fun j hj => by rw [hD, scrU_get hj, if_pos hj]
     have hDb : ∀ j : Nat, j < L.length → (D ++ [((77 : Int), (0 : BitVec 64)), (78, 0)])[j]? = some (0 - (j : Int) - 1, BitVec.ofNat 64 j) := fun j hj => by rw [List.getElem?_append_left (by omega)]; exact hDa j hj
     have hDbl : (D ++ [((77 : Int), (0 : BitVec 64)), (78, 0)]).length = L.length + 2 := by rw [List.length_append, hDl]; rfl
     rw [← hD]
     refine At.rowIs (i := 1) rfl (fun A49 c50 hv => ?_)
     subst hv
     refine At.region (tM rfl rfl ?_)
     refine tV (Val.build (fun a ha => by simp only [List.map_toArray, List.map_cons, List.map_nil, ha.eval (x := (.const (.int .i64 (77)))) rfl] <;> rfl) (bld_45_0 _ )) rfl ?_
     refine tV (Val.build (fun a ha => by simp only [List.map_toArray, List.map_cons, List.map_nil, ha.eval (x := (.const (.int .i64 (78)))) rfl] <;> rfl) (bld_45_0 _ )) rfl (At.buildSl (fun a ha => by simp only [List.map_toArray, List.map_cons, List.map_nil, ha.eval (x := (.tmp 124)) rfl, ha.eval (x := (.tmp 125)) rfl]; try rfl) (bs_25_2 _ _ _ _ ) rfl (fun b51 => (At.append2P (i := 2) (j := 0) (b1 := 0) (b2 := 0) (by_ := 16) Tryz.underlying25 info_45 rfl rfl rfl rfl rfl rfl rfl rfl (by omega) (by omega) rfl (fun v52 H53 hor54 => ?_))))
     rcases hor54 with ⟨rfl, rfl⟩ | rfl
     ·simp only [sc0, scS]
      refine At.drop 0 ?_
      simp only [ec0, ecS]
      refine tA rfl rfl (tE (At.seq (tR (tA rfl rfl (tE (At.block ?_))))))
      skip
      refine At.loop (σ := Nat) (fun k => k ≤ (ovR la).length) (fun k => [(8, .pointer (some ⟨b3, 0, none⟩)), (9, (.slice A5 ((L).length) c6)), (10, (.slice A8 ((M).length) c9)), (11, va), (13, vb), (15, vk), (17, (.slice A49 D.length c50)), (19, v47), (22, (.slice A49 (D ++ [((77 : Int), (0 : BitVec 64)), (78, 0)]).length c50)), (2, x), (23, .int .i64 (k : Int))]) (fun k => [rowR v47 5 1 (((scrB k (ovR la))).length) (((scrB k (ovR la))).map bv), rowR (.slice A49 (D ++ [((77 : Int), (0 : BitVec 64)), (78, 0)]).length c50) 45 2 (((D ++ [((77 : Int), (0 : BitVec 64)), (78, 0)])).length) (prC ((D ++ [((77 : Int), (0 : BitVec 64)), (78, 0)]))), rowR vk 5 1 ((la).length) ((la).map bv), rowR vb 5 1 ((lb).length) ((lb).map bv), rowR va 5 1 ((la).length) ((la).map bv), rowR (.slice A8 ((M).length) c9) 45 2 ((M).length) (prC (M)), rowR (.slice A5 ((L).length) c6) 45 2 ((L).length) (prC (L)), blk b3 31 ([.int .i64 (supS p i c).1, .int .i64 (supS p i c).2.1, .int .i64 (supS p i c).2.2, .int .i64 (4 + (supS p i c).2.1 / 8)])]) (fun k => (ovR la).length - k) 0 (Nat.zero_le _) (Sub.cons rfl (Sub.cons rfl (Sub.cons rfl (Sub.cons rfl (Sub.cons rfl (Sub.cons rfl (Sub.cons rfl (Sub.cons rfl (Sub.cons rfl (Sub.cons rfl (Sub.cons rfl Sub.nil))))))))))) (by rw [scrB_0]) ?_
      intro k hs
      have hbl := scrB_length k (ovR la)
      refine At.seq (tR (tM rfl rfl (tM rfl rfl (tV (Val.lenRow (i := 0) Tryz.underlying29 rfl rfl) rfl (tV (Val.bin rfl rfl rfl) rfl (tE ?_))))))
      refine At.cond rfl (fun h55 => ?_) (fun h55 => ?_)
      ·try simp only [hasB, isSizeB, sB] at h55
       refine At.skipC (At.thenN (At.seq (At.block (At.region (tM rfl rfl (tM rfl rfl (tM rfl rfl (tV (Val.addI rfl rfl (by omega) (by omega)) rfl ?_))))))))
       rw [show (k : Int) + 1 = ((k + 1 : Nat) : Int) from by omega]
       refine tV (Val.toB Tryz.underlying3 Tryz.underlying5 rfl (Int.natCast_nonneg _)) rfl ?_
       rw [Int.toNat_natCast]
       refine tV (Val.indexRow (i := 0) k (by omega) Tryz.underlying29 Tryz.sizeOf5 rfl rfl rfl (by omega) (by omega)) rfl (At.storeRowB (i := 0) (c := UInt8.ofNat (k + 1)) Tryz.sizeOf5 rfl rfl rfl (by omega) ?_)
       simp only [sc0, scS]
       rw [scrB_set (by omega)]
       refine At.nil (At.blkN (At.thenN (At.region (tM rfl rfl ?_))))
       first | refine tV (Val.addI rfl rfl (by omega) (by omega)) rfl ?_ | refine tV (Val.bin rfl rfl rfl) rfl ?_
       refine tA rfl rfl (tE ?_)
       exact At.again (k + 1) (show k + 1 ≤ _ by omega) (by omega) (Sub.cons rfl (Sub.cons rfl (Sub.cons rfl (Sub.cons rfl (Sub.cons rfl (Sub.cons rfl (Sub.cons rfl (Sub.cons rfl (Sub.cons rfl (Sub.cons rfl (Sub.cons (congrArg (fun z => some (Value.int IntKind.i64 z)) (by omega)) Sub.nil))))))))))) (List.Perm.refl _)
      ·try simp only [hasB, isSizeB, sB] at h55
       refine At.exitC (At.thenX (At.thenX (At.blkX (At.thenN (At.seq ?_)))))
       obtain rfl : k = (ovR la).length := by omega
       obtain ⟨G, hG⟩ : ∃ G, G = scrB (ovR la).length (ovR la) := ⟨_, rfl⟩
       have hGl : G.length = la.length := by rw [hG, hbl, hoa]
       have hGa : ∀ j : Nat, j < la.length → G[j]? = some (UInt8.ofNat (j + 1)) := fun j hj => by rw [hG, scrB_get (by omega), if_pos (by omega)]
       have hGb : ∀ j : Nat, j < la.length → (G ++ [(9 : UInt8), 8, 7])[j]? = some (UInt8.ofNat (j + 1)) := fun j hj => by rw [List.getElem?_append_left (by omega)]; exact hGa j hj
       have hGbl : (G ++ [(9 : UInt8), 8, 7]).length = la.length + 3 := by rw [List.length_append, hGl]; rfl
       rw [← hG]
       refine At.rowIs (i := 0) rfl (fun A56 c57 hv => ?_)
       subst hv
       refine At.region (tM rfl rfl (At.buildSl (fun a ha => by simp only [List.map_toArray, List.map_cons, List.map_nil, ha.eval (x := (.const (.int .u8 (9)))) rfl, ha.eval (x := (.const (.int .u8 (8)))) rfl, ha.eval (x := (.const (.int .u8 (7)))) rfl]; try rfl) (bs_29_3 _ _ _ ) rfl (fun b58 => (At.append2B (i := 1) (j := 0) (m := [(9 : UInt8), 8, 7]) (by_ := 1) Tryz.underlying29 info_5 rfl rfl rfl rfl rfl rfl rfl rfl rfl (by omega) (by omega) rfl (fun v59 H60 hor61 => ?_)))))
       rcases hor61 with ⟨rfl, rfl⟩ | rfl
       ·simp only [sc0, scS]
        refine At.drop 0 ?_
        simp only [ec0, ecS]
        refine tA rfl rfl (tE (tR (tM rfl rfl (At.callNT (g := (fun v => .tuple #[v, .int .i64 (pndE lb)])) (fun w hw => pending_n _ lb w (ht.mod hw.mod) (row_rd (hw.row (i := 3) rfl) (by decide)) (by omega)) Tryz.call15 rfl rfl (fun v62 => ?_)))))
        rw [htB.pnd.1, htB.pnd.2]
        refine tM rfl rfl (tV (Val.extract rfl rfl) rfl (tV (Val.extract rfl rfl) rfl (tA rfl rfl (tA rfl rfl (tE (tR (tM rfl rfl (At.callNT (g := (fun v => .tuple #[v, .int .i64 (pndE lb)])) (fun w hw => overlay_n _ lb w (ht.mod hw.mod) (row_rd (hw.row (i := 4) rfl) (by decide)) (by omega)) Tryz.call16 rfl rfl (fun v63 => ?_)))))))))
        rw [htB.pnd.1]
        refine tM rfl rfl (tV (Val.extract rfl rfl) rfl (tV (Val.extract rfl rfl) rfl (tA rfl rfl (tA rfl rfl (tE (tR (tM rfl rfl (At.callNT (g := (fun v => .tuple #[v, .int .i64 (pndE la)])) (fun w hw => pending_n _ la w (ht.mod hw.mod) (row_rd (hw.row (i := 6) rfl) (by decide)) (by omega)) Tryz.call15 rfl rfl (fun v64 => ?_)))))))))
        rw [htA.pnd.1, htA.pnd.2]
        refine tM rfl rfl (tV (Val.extract rfl rfl) rfl (tV (Val.extract rfl rfl) rfl (tA rfl rfl (tA rfl rfl (tE (tR (tM rfl rfl (At.callNT (g := (fun v => .tuple #[v, .int .i64 (pndE la)])) (fun w hw => overlay_n _ la w (ht.mod hw.mod) (row_rd (hw.row (i := 7) rfl) (by decide)) (by omega)) Tryz.call16 rfl rfl (fun v65 => ?_)))))))))
        rw [htA.pnd.1]
        refine tM rfl rfl (tV (Val.extract rfl rfl) rfl (tV (Val.extract rfl rfl) rfl (tA rfl rfl (tA rfl rfl (tE (At.seq (tR (tM rfl rfl (tV (Val.bin rfl rfl rfl) rfl (tM rfl rfl (At.yes rfl rfl (tM rfl rfl (At.yes rfl rfl (tV (Val.bin rfl rfl rfl) rfl (tV (Val.pickF rfl rfl) rfl (tM rfl rfl (At.yes rfl rfl (tM rfl rfl (At.yes rfl rfl (tV (Val.bin rfl rfl rfl) rfl (tV (Val.pickF rfl rfl) rfl (tM rfl rfl (At.yes rfl rfl (tM rfl rfl (At.yes rfl rfl (tV (Val.bin rfl rfl rfl) rfl (tV (Val.pickF rfl rfl) rfl (tM rfl rfl (At.yes rfl rfl (tM rfl rfl (At.yes rfl rfl (tM rfl rfl (At.yes rfl rfl (At.callP (fun w hw => sameUnJ_p _ _ M w (row_rd (hw.row (i := 3) rfl) (by decide)) (row_rd (hw.row (i := 9) rfl) (by decide)) (by omega)) Tryz.call17 rfl rfl (At.yes rfl rfl (tV (Val.not rfl) rfl (tV (Val.pickF rfl rfl) rfl (tM rfl rfl (At.yes rfl rfl ?_)))))))))))))))))))))))))))))))))))))))
        refine tM rfl rfl (At.yes rfl rfl (tM rfl rfl (At.yes rfl rfl (At.callP (fun w hw => sameUnJ_p _ _ L w (row_rd (hw.row (i := 1) rfl) (by decide)) (row_rd (hw.row (i := 10) rfl) (by decide)) (by omega)) Tryz.call17 rfl rfl (At.yes rfl rfl (tV (Val.not rfl) rfl (tV (Val.pickF rfl rfl) rfl (tM rfl rfl (At.yes rfl rfl (tM rfl rfl (At.yes rfl rfl (tM rfl rfl (At.yes rfl rfl ?_)))))))))))))
        refine At.callP (fun w hw => (by have h0 := sameBytes_p _ _ la la w (row_rd (hw.row (i := 8) rfl) (by decide)) (row_rd (hw.row (i := 6) rfl) (by decide)) (by omega) (by omega); rwa [decide_eq_true rfl] at h0)) Tryz.call18 rfl rfl (At.yes rfl rfl (tV (Val.not rfl) rfl (tV (Val.pickF rfl rfl) rfl (tE (At.condF rfl (At.skipC (At.thenN (At.seq (tR (tA rfl rfl (tE (At.block ?_))))))))))))
        skip
        refine At.loop (σ := Nat) (fun k => k ≤ L.length) (fun k => [(8, .pointer (some ⟨b3, 0, none⟩)), (9, (.slice A5 ((L).length) c6)), (10, (.slice A8 ((M).length) c9)), (11, va), (13, vb), (17, (.slice A49 D.length c50)), (19, (.slice A56 G.length c57)), (22, (.slice A49 (D ++ [((77 : Int), (0 : BitVec 64)), (78, 0)]).length c50)), (24, (.slice A56 (G ++ [(9 : UInt8), 8, 7]).length c57)), (26, v63), (29, v65), (2, x), (31, .int .i64 (k : Int))]) (fun k => [rowR v65 5 1 (((ovR la)).length) (((ovR la)).map bv), rowR v64 45 2 ((L).length) (prC (L)), rowR v63 5 1 (((ovR lb)).length) (((ovR lb)).map bv), rowR v62 45 2 ((M).length) (prC (M)), rowR (.slice A56 (G ++ [(9 : UInt8), 8, 7]).length c57) 5 1 (((G ++ [(9 : UInt8), 8, 7])).length) (((G ++ [(9 : UInt8), 8, 7])).map bv), rowR (.slice A49 (D ++ [((77 : Int), (0 : BitVec 64)), (78, 0)]).length c50) 45 2 (((D ++ [((77 : Int), (0 : BitVec 64)), (78, 0)])).length) (prC ((D ++ [((77 : Int), (0 : BitVec 64)), (78, 0)]))), rowR vk 5 1 ((la).length) ((la).map bv), rowR vb 5 1 ((lb).length) ((lb).map bv), rowR va 5 1 ((la).length) ((la).map bv), rowR (.slice A8 ((M).length) c9) 45 2 ((M).length) (prC (M)), rowR (.slice A5 ((L).length) c6) 45 2 ((L).length) (prC (L)), blk b3 31 ([.int .i64 (supS p i c).1, .int .i64 (supS p i c).2.1, .int .i64 (supS p i c).2.2, .int .i64 (4 + (supS p i c).2.1 / 8)])]) (fun k => L.length - k) 0 (Nat.zero_le _) (Sub.cons rfl (Sub.cons rfl (Sub.cons rfl (Sub.cons rfl (Sub.cons rfl (Sub.cons rfl (Sub.cons rfl (Sub.cons rfl (Sub.cons rfl (Sub.cons rfl (Sub.cons rfl (Sub.cons rfl (Sub.cons rfl Sub.nil))))))))))))) (List.Perm.refl _) ?_
        intro k hk
        refine At.seq (tR (tM rfl rfl (tM rfl rfl (tV (Val.len (bt := #[]) Tryz.underlying25 rfl) rfl (tV (Val.bin rfl rfl rfl) rfl (tE ?_))))))
        refine At.cond rfl (fun h66 => ?_) (fun h66 => ?_)
        ·try simp only [hasB, isSizeB, sB] at h66
         refine At.skipC (At.thenN (At.seq (At.block (tR (tM rfl rfl (tM rfl rfl (tV (Val.indexRowP (i := 5) (k * 2) (by omega) Tryz.underlying25 Tryz.sizeOf45 rfl rfl rfl (by omega) (by omega) (by omega)) rfl (tV (Val.field ((k * 2 + 0)) rfl fo_45_0 rfl) rfl (tV (Val.loadRow (u := .int .i64 (0 - (k : Int) - 1)) (i := 5) Tryz.isAgg3 rfl rfl (prC_at (hDb k (by omega))).1) rfl (tM rfl rfl (tV (Val.neg rfl) rfl ?_)))))))))))
         rw [wrap_i64 (by omega) (by omega)]
         first | refine tV (Val.subI rfl rfl (by omega) (by omega)) rfl ?_ | refine tV (Val.bin rfl rfl rfl) rfl ?_
         refine tV (Val.bin rfl rfl rfl) rfl ?_
         rw [bne_self_eq_false]
         refine tM rfl rfl (At.yes rfl rfl (tM rfl rfl (At.yes rfl rfl (tM rfl rfl (At.yes rfl rfl (tV (Val.indexRow (i := 5) (k * 2) (by omega) Tryz.underlying25 Tryz.sizeOf45 rfl rfl rfl (by omega) (by omega)) rfl (At.yes rfl rfl (tV (Val.field ((k * 2 + 0)) rfl fo_45_0 rfl) rfl (At.yes rfl rfl (tV (Val.loadRow (u := .int .i64 (0 - (k : Int) - 1)) (i := 5) Tryz.isAgg3 rfl rfl (prC_at (hDb k (by omega))).1) rfl (At.yes rfl rfl (tM rfl rfl (At.yes rfl rfl (tV (Val.neg rfl) rfl ?_))))))))))))))
         rw [wrap_i64 (by omega) (by omega)]
         refine At.yes rfl rfl ?_
         first | refine tV (Val.subI rfl rfl (by omega) (by omega)) rfl ?_ | refine tV (Val.bin rfl rfl rfl) rfl ?_
         refine At.yes rfl rfl (tV (Val.bin rfl rfl rfl) rfl ?_)
         rw [bne_self_eq_false]
         refine tV (Val.pickF rfl rfl) rfl (tM rfl rfl (At.yes rfl rfl (tM rfl rfl (At.yes rfl rfl (tM rfl rfl (At.yes rfl rfl (tV (Val.indexRowP (i := 5) (k * 2) (by omega) Tryz.underlying25 Tryz.sizeOf45 rfl rfl rfl (by omega) (by omega) (by omega)) rfl (At.yes rfl rfl (tV (Val.field ((k * 2 + 1)) rfl fo_45_1 rfl) rfl (At.yes rfl rfl (tV (Val.loadRow (u := b64 (BitVec.ofNat 64 k)) (i := 5) Tryz.isAgg43 rfl rfl (prC_at (hDb k (by omega))).2) rfl (At.yes rfl rfl (tM rfl rfl (At.yes rfl rfl (tV (Val.conv Tryz.underlying3 Tryz.underlying43 rfl) rfl ?_)))))))))))))))
         rw [wrap_u64_nat]
         refine At.yes rfl rfl (tV (Val.bin rfl rfl rfl) rfl ?_)
         rw [bne_self_eq_false]
         refine tV (Val.pickF rfl rfl) rfl (tE (At.condF rfl (At.skipC (At.blkN (At.thenN (At.region (tM rfl rfl ?_)))))))
         first | refine tV (Val.addI rfl rfl (by omega) (by omega)) rfl ?_ | refine tV (Val.bin rfl rfl rfl) rfl ?_
         refine tA rfl rfl (tE ?_)
         exact At.again (k + 1) (show k + 1 ≤ _ by omega) (by omega) (Sub.cons rfl (Sub.cons rfl (Sub.cons rfl (Sub.cons rfl (Sub.cons rfl (Sub.cons rfl (Sub.cons rfl (Sub.cons rfl (Sub.cons rfl (Sub.cons rfl (Sub.cons rfl (Sub.cons rfl (Sub.cons (congrArg (fun z => some (Value.int IntKind.i64 z)) (by omega)) Sub.nil))))))))))))) (List.Perm.refl _)
        ·try simp only [hasB, isSizeB, sB] at h66
         refine At.exitC (At.thenX (At.thenX (At.blkX (At.thenN (At.seq (tR (tA rfl rfl (tE (At.block ?_)))))))))
         skip
         refine At.loop (σ := Nat) (fun k => k ≤ la.length) (fun k => [(8, .pointer (some ⟨b3, 0, none⟩)), (9, (.slice A5 ((L).length) c6)), (10, (.slice A8 ((M).length) c9)), (11, va), (13, vb), (19, (.slice A56 G.length c57)), (24, (.slice A56 (G ++ [(9 : UInt8), 8, 7]).length c57)), (26, v63), (29, v65), (2, x), (32, .int .i64 (k : Int))]) (fun k => [rowR v65 5 1 (((ovR la)).length) (((ovR la)).map bv), rowR v64 45 2 ((L).length) (prC (L)), rowR v63 5 1 (((ovR lb)).length) (((ovR lb)).map bv), rowR v62 45 2 ((M).length) (prC (M)), rowR (.slice A56 (G ++ [(9 : UInt8), 8, 7]).length c57) 5 1 (((G ++ [(9 : UInt8), 8, 7])).length) (((G ++ [(9 : UInt8), 8, 7])).map bv), rowR (.slice A49 (D ++ [((77 : Int), (0 : BitVec 64)), (78, 0)]).length c50) 45 2 (((D ++ [((77 : Int), (0 : BitVec 64)), (78, 0)])).length) (prC ((D ++ [((77 : Int), (0 : BitVec 64)), (78, 0)]))), rowR vk 5 1 ((la).length) ((la).map bv), rowR vb 5 1 ((lb).length) ((lb).map bv), rowR va 5 1 ((la).length) ((la).map bv), rowR (.slice A8 ((M).length) c9) 45 2 ((M).length) (prC (M)), rowR (.slice A5 ((L).length) c6) 45 2 ((L).length) (prC (L)), blk b3 31 ([.int .i64 (supS p i c).1, .int .i64 (supS p i c).2.1, .int .i64 (supS p i c).2.2, .int .i64 (4 + (supS p i c).2.1 / 8)])]) (fun k => la.length - k) 0 (Nat.zero_le _) (Sub.cons rfl (Sub.cons rfl (Sub.cons rfl (Sub.cons rfl (Sub.cons rfl (Sub.cons rfl (Sub.cons rfl (Sub.cons rfl (Sub.cons rfl (Sub.cons rfl (Sub.cons rfl Sub.nil))))))))))) (List.Perm.refl _) ?_
         intro k hk
         refine At.seq (tR (tM rfl rfl (tM rfl rfl (tV (Val.len (bt := #[]) Tryz.underlying29 rfl) rfl (tV (Val.bin rfl rfl rfl) rfl (tE ?_))))))
         refine At.cond rfl (fun h67 => ?_) (fun h67 => ?_)
         ·try simp only [hasB, isSizeB, sB] at h67
          refine At.skipC (At.thenN (At.seq (At.block (tR (tM rfl rfl (tM rfl rfl (tV (Val.indexRowP (i := 4) k (by omega) Tryz.underlying29 Tryz.sizeOf5 rfl rfl rfl (by omega) (by omega) (by omega)) rfl (tV (Val.loadRowB (c := UInt8.ofNat (k + 1)) (i := 4) Tryz.isAgg5 rfl rfl (hGb k (by omega))) rfl (tM rfl rfl (tV (Val.addI rfl rfl (by omega) (by omega)) rfl ?_))))))))))
          rw [show (k : Int) + 1 = ((k + 1 : Nat) : Int) from by omega]
          refine tV (Val.toB Tryz.underlying3 Tryz.underlying5 rfl (Int.natCast_nonneg _)) rfl ?_
          rw [Int.toNat_natCast]
          refine tV (Val.bin rfl rfl rfl) rfl ?_
          rw [bne_self_eq_false]
          refine tM rfl rfl (At.yes rfl rfl (tM rfl rfl (At.yes rfl rfl (tM rfl rfl (At.yes rfl rfl (tV (Val.indexRow (i := 4) k (by omega) Tryz.underlying29 Tryz.sizeOf5 rfl rfl rfl (by omega) (by omega)) rfl (At.yes rfl rfl (tV (Val.loadRowB (c := UInt8.ofNat (k + 1)) (i := 4) Tryz.isAgg5 rfl rfl (hGb k (by omega))) rfl (At.yes rfl rfl (tM rfl rfl (At.yes rfl rfl (tV (Val.addI rfl rfl (by omega) (by omega)) rfl ?_))))))))))))
          rw [show (k : Int) + 1 = ((k + 1 : Nat) : Int) from by omega]
          refine At.yes rfl rfl (tV (Val.toB Tryz.underlying3 Tryz.underlying5 rfl (Int.natCast_nonneg _)) rfl ?_)
          rw [Int.toNat_natCast]
          refine At.yes rfl rfl (tV (Val.bin rfl rfl rfl) rfl ?_)
          rw [bne_self_eq_false]
          refine tV (Val.pickF rfl rfl) rfl (tE (At.condF rfl (At.skipC (At.blkN (At.thenN (At.region (tM rfl rfl ?_)))))))
          first | refine tV (Val.addI rfl rfl (by omega) (by omega)) rfl ?_ | refine tV (Val.bin rfl rfl rfl) rfl ?_
          refine tA rfl rfl (tE ?_)
          exact At.again (k + 1) (show k + 1 ≤ _ by omega) (by omega) (Sub.cons rfl (Sub.cons rfl (Sub.cons rfl (Sub.cons rfl (Sub.cons rfl (Sub.cons rfl (Sub.cons rfl (Sub.cons rfl (Sub.cons rfl (Sub.cons rfl (Sub.cons (congrArg (fun z => some (Value.int IntKind.i64 z)) (by omega)) Sub.nil))))))))))) (List.Perm.refl _)
         ·try simp only [hasB, isSizeB, sB] at h67
          refine At.exitC (At.thenX (At.thenX (At.blkX (At.thenN (At.seq (At.seq (At.drop 1 ?_)))))))
          simp only [ec0, ecS]
          refine At.drop 2 ?_
          simp only [ec0, ecS]
          refine At.drop 2 ?_
          simp only [ec0, ecS]
          refine At.drop 2 ?_
          simp only [ec0, ecS]
          refine At.drop 2 ?_
          simp only [ec0, ecS]
          refine At.region (tA rfl rfl (tE (At.block ?_)))
          skip
          refine At.loop (σ := Nat) (fun k => k ≤ L.length) (fun k => [(8, .pointer (some ⟨b3, 0, none⟩)), (9, (.slice A5 ((L).length) c6)), (10, (.slice A8 ((M).length) c9)), (11, va), (13, vb), (26, v63), (29, v65), (2, x), (33, .int .i64 (k : Int))]) (fun k => [rowR v65 5 1 (((ovR la)).length) (((ovR la)).map bv), rowR v63 5 1 (((ovR lb)).length) (((ovR lb)).map bv), rowR vb 5 1 ((lb).length) ((lb).map bv), rowR va 5 1 ((la).length) ((la).map bv), rowR (.slice A8 ((M).length) c9) 45 2 ((M).length) (prC (M)), rowR (.slice A5 ((L).length) c6) 45 2 ((L).length) (prC (L)), blk b3 31 ([.int .i64 (supS p i c).1, .int .i64 (supS p i c).2.1, .int .i64 (supS p i c).2.2, .int .i64 (4 + (supS p i c).2.1 / 8)])]) (fun k => L.length - k) 0 (Nat.zero_le _) (Sub.cons rfl (Sub.cons rfl (Sub.cons rfl (Sub.cons rfl (Sub.cons rfl (Sub.cons rfl (Sub.cons rfl (Sub.cons rfl (Sub.cons rfl Sub.nil))))))))) (List.Perm.refl _) ?_
          intro k hk
          refine At.seq (tR (tM rfl rfl (tM rfl rfl (tV (Val.lenRow (i := 5) Tryz.underlying25 rfl rfl) rfl (tV (Val.bin rfl rfl rfl) rfl (tE ?_))))))
          refine At.cond rfl (fun h68 => ?_) (fun h68 => ?_)
          ·try simp only [hasB, isSizeB, sB] at h68
           obtain ⟨q, hq⟩ : ∃ q, L[k]? = some q := ⟨_, List.getElem?_eq_getElem (by omega)⟩
           have hqt := pl_all htA.pl q (List.mem_of_getElem? hq)
           unfold TW at hqt
           refine At.skipC (At.thenN (At.seq (At.block (At.seq (At.quiet rfl (by decide +kernel) (qM rfl rfl (qM rfl rfl (qM rfl rfl (qV (Val.indexRow (i := 5) (k * 2) (by omega) Tryz.underlying25 Tryz.sizeOf45 rfl rfl rfl (by omega) (by omega)) rfl (qV (Val.field ((k * 2 + 0)) rfl fo_45_0 rfl) rfl (qV (Val.loadRow (u := .int .i64 q.1) (i := 5) Tryz.isAgg3 rfl rfl (prC_at hq).1) rfl ?_)))))))))))
           refine QAt.callP (fun w hw => (by have h0 := wordJ_p _ (ovR la) q.1.toNat w (row_rd (hw.row (i := 0) rfl) (by decide)) (by omega) (by omega); rwa [show ((q.1.toNat : Nat) : Int) = q.1 from by omega, htA.word (List.mem_of_getElem? hq)] at h0)) Tryz.call19 rfl rfl (qM rfl rfl (qM rfl rfl (qV (Val.indexRow (i := 5) (k * 2) (by omega) Tryz.underlying25 Tryz.sizeOf45 rfl rfl rfl (by omega) (by omega)) rfl (qV (Val.field ((k * 2 + 1)) rfl fo_45_1 rfl) rfl (qV (Val.loadRow (u := b64 q.2) (i := 5) Tryz.isAgg43 rfl rfl (prC_at hq).2) rfl (qV (Val.bin rfl rfl rfl) rfl ?_))))))
           rw [bne_self_eq_false]
           refine QAt.fin (At.thenN (At.condF rfl (At.skipC (At.blkN (At.thenN (At.region (tM rfl rfl ?_)))))))
           first | refine tV (Val.addI rfl rfl (by omega) (by omega)) rfl ?_ | refine tV (Val.bin rfl rfl rfl) rfl ?_
           refine tA rfl rfl (tE ?_)
           exact At.again (k + 1) (show k + 1 ≤ _ by omega) (by omega) (Sub.cons rfl (Sub.cons rfl (Sub.cons rfl (Sub.cons rfl (Sub.cons rfl (Sub.cons rfl (Sub.cons rfl (Sub.cons rfl (Sub.cons (congrArg (fun z => some (Value.int IntKind.i64 z)) (by omega)) Sub.nil))))))))) (List.Perm.refl _)
          ·try simp only [hasB, isSizeB, sB] at h68
           refine At.exitC (At.thenX (At.thenX (At.blkX (At.thenN (At.seq (tR (tA rfl rfl (tE (At.block ?_)))))))))
           skip
           refine At.loop (σ := Nat) (fun k => k ≤ M.length) (fun k => [(8, .pointer (some ⟨b3, 0, none⟩)), (10, (.slice A8 ((M).length) c9)), (11, va), (13, vb), (26, v63), (29, v65), (2, x), (34, .int .i64 (k : Int))]) (fun k => [rowR v65 5 1 (((ovR la)).length) (((ovR la)).map bv), rowR v63 5 1 (((ovR lb)).length) (((ovR lb)).map bv), rowR vb 5 1 ((lb).length) ((lb).map bv), rowR va 5 1 ((la).length) ((la).map bv), rowR (.slice A8 ((M).length) c9) 45 2 ((M).length) (prC (M)), rowR (.slice A5 ((L).length) c6) 45 2 ((L).length) (prC (L)), blk b3 31 ([.int .i64 (supS p i c).1, .int .i64 (supS p i c).2.1, .int .i64 (supS p i c).2.2, .int .i64 (4 + (supS p i c).2.1 / 8)])]) (fun k => M.length - k) 0 (Nat.zero_le _) (Sub.cons rfl (Sub.cons rfl (Sub.cons rfl (Sub.cons rfl (Sub.cons rfl (Sub.cons rfl (Sub.cons rfl (Sub.cons rfl Sub.nil)))))))) (List.Perm.refl _) ?_
           intro k hk
           refine At.seq (tR (tM rfl rfl (tM rfl rfl (tV (Val.lenRow (i := 4) Tryz.underlying25 rfl rfl) rfl (tV (Val.bin rfl rfl rfl) rfl (tE ?_))))))
           refine At.cond rfl (fun h69 => ?_) (fun h69 => ?_)
           ·try simp only [hasB, isSizeB, sB] at h69
            obtain ⟨q, hq⟩ : ∃ q, M[k]? = some q := ⟨_, List.getElem?_eq_getElem (by omega)⟩
            have hqt := pl_all htB.pl q (List.mem_of_getElem? hq)
            unfold TW at hqt
            refine At.skipC (At.thenN (At.seq (At.block (At.seq (At.quiet rfl (by decide +kernel) (qM rfl rfl (qM rfl rfl (qM rfl rfl (qV (Val.indexRow (i := 4) (k * 2) (by omega) Tryz.underlying25 Tryz.sizeOf45 rfl rfl rfl (by omega) (by omega)) rfl (qV (Val.field ((k * 2 + 0)) rfl fo_45_0 rfl) rfl (qV (Val.loadRow (u := .int .i64 q.1) (i := 4) Tryz.isAgg3 rfl rfl (prC_at hq).1) rfl ?_)))))))))))
            refine QAt.callP (fun w hw => (by have h0 := wordJ_p _ (ovR lb) q.1.toNat w (row_rd (hw.row (i := 1) rfl) (by decide)) (by omega) (by omega); rwa [show ((q.1.toNat : Nat) : Int) = q.1 from by omega, htB.word (List.mem_of_getElem? hq)] at h0)) Tryz.call19 rfl rfl (qM rfl rfl (qM rfl rfl (qV (Val.indexRow (i := 4) (k * 2) (by omega) Tryz.underlying25 Tryz.sizeOf45 rfl rfl rfl (by omega) (by omega)) rfl (qV (Val.field ((k * 2 + 1)) rfl fo_45_1 rfl) rfl (qV (Val.loadRow (u := b64 q.2) (i := 4) Tryz.isAgg43 rfl rfl (prC_at hq).2) rfl (qV (Val.bin rfl rfl rfl) rfl ?_))))))
            rw [bne_self_eq_false]
            refine QAt.fin (At.thenN (At.condF rfl (At.skipC (At.blkN (At.thenN (At.region (tM rfl rfl ?_)))))))
            first | refine tV (Val.addI rfl rfl (by omega) (by omega)) rfl ?_ | refine tV (Val.bin rfl rfl rfl) rfl ?_
            refine tA rfl rfl (tE ?_)
            exact At.again (k + 1) (show k + 1 ≤ _ by omega) (by omega) (Sub.cons rfl (Sub.cons rfl (Sub.cons rfl (Sub.cons rfl (Sub.cons rfl (Sub.cons rfl (Sub.cons rfl (Sub.cons (congrArg (fun z => some (Value.int IntKind.i64 z)) (by omega)) Sub.nil)))))))) (List.Perm.refl _)
           ·try simp only [hasB, isSizeB, sB] at h69
            refine At.exitC (At.thenX (At.thenX (At.blkX (At.thenN (At.seq ?_)))))
            apply At.any (t := 21)
            · rfl
            refine KAt.pin (fun w hw => hw) (KAt.take 0 (Val.move rfl) rfl rfl rfl rfl (fun w hw => hw) (by decide +kernel) (KAt.take 1 (Val.lenRow (i := 0) Tryz.underlying29 rfl rfl) rfl rfl rfl rfl (fun w hw => hw) (by decide +kernel) (KAt.take 2 (Val.move rfl) rfl rfl rfl rfl (fun w hw => hw) (by decide +kernel) (KAt.take 3 (Val.lenRow (i := 3) Tryz.underlying29 rfl rfl) rfl rfl rfl rfl (fun w hw => hw) (by decide +kernel) (KAt.take 4 (Val.bin rfl rfl rfl) rfl rfl rfl rfl (fun w hw => hw) (by decide +kernel) ?_)))))
            rw [show (((ovR la).length : Nat) : Int) = (la.length : Nat) from by rw [hoa], beq_self_eq_true]
            refine KAt.take 5 (Val.move rfl) rfl rfl rfl rfl (fun w hw => hw) (by decide +kernel) (KAt.takeY 6 (Val.move rfl) rfl rfl rfl rfl (fun w hw => hw) (by decide +kernel) (KAt.takeY 7 (Val.lenRow (i := 1) Tryz.underlying29 rfl rfl) rfl rfl rfl rfl (fun w hw => hw) (by decide +kernel) (KAt.takeY 8 (Val.move rfl) rfl rfl rfl rfl (fun w hw => hw) (by decide +kernel) (KAt.takeY 9 (Val.lenRow (i := 2) Tryz.underlying29 rfl rfl) rfl rfl rfl rfl (fun w hw => hw) (by decide +kernel) (KAt.takeY 10 (Val.bin rfl rfl rfl) rfl rfl rfl rfl (fun w hw => hw) (by decide +kernel) ?_)))))
            rw [show (((ovR lb).length : Nat) : Int) = (lb.length : Nat) from by rw [hob], beq_self_eq_true]
            refine KAt.take 11 (Val.pickT rfl rfl) rfl rfl rfl rfl (fun w hw => hw) (by decide +kernel) (KAt.take 12 (Val.move rfl) rfl rfl rfl rfl (fun w hw => hw) (by decide +kernel) (KAt.takeY 13 (Val.move rfl) rfl rfl rfl rfl (fun w hw => hw) (by decide +kernel) (KAt.takeY 14 (Val.loadAll (i := 6) Tryz.isAgg31 Tryz.sizeOf31 rfl rfl rfl) rfl rfl rfl rfl (fun w hw => hw) (by decide +kernel) (KAt.takeY 15 (Val.move rfl) rfl rfl rfl rfl (fun w hw => hw) (by decide +kernel) (KAt.takeY 16 (Val.loadAll (i := 6) Tryz.isAgg31 Tryz.sizeOf31 rfl rfl rfl) rfl rfl rfl rfl (fun w hw => hw) (by decide +kernel) (KAt.only 17 rfl (by decide +kernel) (At.yes rfl rfl (At.callN (fun w hw => changesJ_n x T2 (supS p i c).1 (supS p i c).2.1 (supS p i c).2.2 (4 + (supS p i c).2.1 / 8) w (hx.mod hw.mod) hT2 hsi) Tryz.call21 rfl rfl (fun v70 => ?_)))))))))
            rw [← hM]
            refine At.nil (KAt.go (fun w hw => hw.drop (List.Sublist.cons _ (List.Sublist.cons_cons _ (List.Sublist.cons_cons _ (List.Sublist.cons_cons _ (List.Sublist.cons_cons _ (List.Sublist.cons_cons _ (List.Sublist.cons_cons _ (List.Sublist.cons_cons _ (List.Sublist.refl _)))))))))) (KAt.only 18 rfl (by decide +kernel) (At.yes rfl rfl (At.callP (fun w hw => lentIn_p _ _ la L M (supS p i c) w (ht.mod hw.mod) (row_rd (hw.row (i := 4) rfl) (by decide)) (row_rd (hw.row (i := 0) rfl) (by decide)) htA hL1 hM1 hM8 hMp) Tryz.call20 rfl rfl (At.nil (KAt.go (fun w hw => hw.drop (List.Sublist.cons _ (List.Sublist.cons_cons _ (List.Sublist.cons_cons _ (List.Sublist.cons_cons _ (List.Sublist.cons_cons _ (List.Sublist.cons_cons _ (List.Sublist.cons_cons _ (List.Sublist.cons_cons _ (List.Sublist.refl _)))))))))) (KAt.take 19 (Val.pickT rfl rfl) rfl rfl rfl rfl (fun w hw => hw.drop (List.Sublist.cons _ (List.Sublist.cons_cons _ (List.Sublist.cons_cons _ (List.Sublist.cons_cons _ (List.Sublist.cons_cons _ (List.Sublist.cons_cons _ (List.Sublist.cons_cons _ (List.Sublist.cons_cons _ (List.Sublist.refl _)))))))))) (by decide +kernel) (KAt.take 20 (Val.assign rfl) rfl rfl rfl rfl (fun w hw => hw.drop (List.Sublist.cons _ (List.Sublist.cons_cons _ (List.Sublist.cons_cons _ (List.Sublist.cons_cons _ (List.Sublist.cons_cons _ (List.Sublist.cons_cons _ (List.Sublist.cons_cons _ (List.Sublist.cons_cons _ (List.Sublist.refl _)))))))))) (by decide +kernel) (KAt.done (by decide +kernel) (At.thenN (At.retC (At.ret1 (.inl rfl) rfl rfl rfl (fun w hw => ?_)))))))))))))
            exact ⟨rfl, hw.mod⟩
       ·refine At.drop 1 ?_
        simp only [ec0, ecS]
        refine tA rfl rfl (tE (tR (tM rfl rfl (At.callNT (g := (fun v => .tuple #[v, .int .i64 (pndE lb)])) (fun w hw => pending_n _ lb w (ht.mod hw.mod) (row_rd (hw.row (i := 4) rfl) (by decide)) (by omega)) Tryz.call15 rfl rfl (fun v71 => ?_)))))
        rw [htB.pnd.1, htB.pnd.2]
        refine tM rfl rfl (tV (Val.extract rfl rfl) rfl (tV (Val.extract rfl rfl) rfl (tA rfl rfl (tA rfl rfl (tE (tR (tM rfl rfl (At.callNT (g := (fun v => .tuple #[v, .int .i64 (pndE lb)])) (fun w hw => overlay_n _ lb w (ht.mod hw.mod) (row_rd (hw.row (i := 5) rfl) (by decide)) (by omega)) Tryz.call16 rfl rfl (fun v72 => ?_)))))))))
        rw [htB.pnd.1]
        refine tM rfl rfl (tV (Val.extract rfl rfl) rfl (tV (Val.extract rfl rfl) rfl (tA rfl rfl (tA rfl rfl (tE (tR (tM rfl rfl (At.callNT (g := (fun v => .tuple #[v, .int .i64 (pndE la)])) (fun w hw => pending_n _ la w (ht.mod hw.mod) (row_rd (hw.row (i := 7) rfl) (by decide)) (by omega)) Tryz.call15 rfl rfl (fun v73 => ?_)))))))))
        rw [htA.pnd.1, htA.pnd.2]
        refine tM rfl rfl (tV (Val.extract rfl rfl) rfl (tV (Val.extract rfl rfl) rfl (tA rfl rfl (tA rfl rfl (tE (tR (tM rfl rfl (At.callNT (g := (fun v => .tuple #[v, .int .i64 (pndE la)])) (fun w hw => overlay_n _ la w (ht.mod hw.mod) (row_rd (hw.row (i := 8) rfl) (by decide)) (by omega)) Tryz.call16 rfl rfl (fun v74 => ?_)))))))))
        rw [htA.pnd.1]
        refine tM rfl rfl (tV (Val.extract rfl rfl) rfl (tV (Val.extract rfl rfl) rfl (tA rfl rfl (tA rfl rfl (tE (At.seq (tR (tM rfl rfl (tV (Val.bin rfl rfl rfl) rfl (tM rfl rfl (At.yes rfl rfl (tM rfl rfl (At.yes rfl rfl (tV (Val.bin rfl rfl rfl) rfl (tV (Val.pickF rfl rfl) rfl (tM rfl rfl (At.yes rfl rfl (tM rfl rfl (At.yes rfl rfl (tV (Val.bin rfl rfl rfl) rfl (tV (Val.pickF rfl rfl) rfl (tM rfl rfl (At.yes rfl rfl (tM rfl rfl (At.yes rfl rfl (tV (Val.bin rfl rfl rfl) rfl (tV (Val.pickF rfl rfl) rfl (tM rfl rfl (At.yes rfl rfl (tM rfl rfl (At.yes rfl rfl (tM rfl rfl (At.yes rfl rfl (At.callP (fun w hw => sameUnJ_p _ _ M w (row_rd (hw.row (i := 3) rfl) (by decide)) (row_rd (hw.row (i := 10) rfl) (by decide)) (by omega)) Tryz.call17 rfl rfl (At.yes rfl rfl (tV (Val.not rfl) rfl (tV (Val.pickF rfl rfl) rfl (tM rfl rfl (At.yes rfl rfl ?_)))))))))))))))))))))))))))))))))))))))
        refine tM rfl rfl (At.yes rfl rfl (tM rfl rfl (At.yes rfl rfl (At.callP (fun w hw => sameUnJ_p _ _ L w (row_rd (hw.row (i := 1) rfl) (by decide)) (row_rd (hw.row (i := 11) rfl) (by decide)) (by omega)) Tryz.call17 rfl rfl (At.yes rfl rfl (tV (Val.not rfl) rfl (tV (Val.pickF rfl rfl) rfl (tM rfl rfl (At.yes rfl rfl (tM rfl rfl (At.yes rfl rfl (tM rfl rfl (At.yes rfl rfl ?_)))))))))))))
        refine At.callP (fun w hw => (by have h0 := sameBytes_p _ _ la la w (row_rd (hw.row (i := 9) rfl) (by decide)) (row_rd (hw.row (i := 7) rfl) (by decide)) (by omega) (by omega); rwa [decide_eq_true rfl] at h0)) Tryz.call18 rfl rfl (At.yes rfl rfl (tV (Val.not rfl) rfl (tV (Val.pickF rfl rfl) rfl (tE (At.condF rfl (At.skipC (At.thenN (At.seq (tR (tA rfl rfl (tE (At.block ?_))))))))))))
        skip
        refine At.loop (σ := Nat) (fun k => k ≤ L.length) (fun k => [(8, .pointer (some ⟨b3, 0, none⟩)), (9, (.slice A5 ((L).length) c6)), (10, (.slice A8 ((M).length) c9)), (11, va), (13, vb), (17, (.slice A49 D.length c50)), (19, (.slice A56 ((G).length) c57)), (22, (.slice A49 (D ++ [((77 : Int), (0 : BitVec 64)), (78, 0)]).length c50)), (24, v59), (26, v72), (29, v74), (2, x), (31, .int .i64 (k : Int))]) (fun k => [rowR v74 5 1 (((ovR la)).length) (((ovR la)).map bv), rowR v73 45 2 ((L).length) (prC (L)), rowR v72 5 1 (((ovR lb)).length) (((ovR lb)).map bv), rowR v71 45 2 ((M).length) (prC (M)), rowR v59 5 1 (((G ++ [(9 : UInt8), 8, 7])).length) (((G ++ [(9 : UInt8), 8, 7])).map bv), rowR (.slice A56 ((G).length) c57) 5 1 ((G).length) ((G).map bv), rowR (.slice A49 (D ++ [((77 : Int), (0 : BitVec 64)), (78, 0)]).length c50) 45 2 (((D ++ [((77 : Int), (0 : BitVec 64)), (78, 0)])).length) (prC ((D ++ [((77 : Int), (0 : BitVec 64)), (78, 0)]))), rowR vk 5 1 ((la).length) ((la).map bv), rowR vb 5 1 ((lb).length) ((lb).map bv), rowR va 5 1 ((la).length) ((la).map bv), rowR (.slice A8 ((M).length) c9) 45 2 ((M).length) (prC (M)), rowR (.slice A5 ((L).length) c6) 45 2 ((L).length) (prC (L)), blk b3 31 ([.int .i64 (supS p i c).1, .int .i64 (supS p i c).2.1, .int .i64 (supS p i c).2.2, .int .i64 (4 + (supS p i c).2.1 / 8)])]) (fun k => L.length - k) 0 (Nat.zero_le _) (Sub.cons rfl (Sub.cons rfl (Sub.cons rfl (Sub.cons rfl (Sub.cons rfl (Sub.cons rfl (Sub.cons rfl (Sub.cons rfl (Sub.cons rfl (Sub.cons rfl (Sub.cons rfl (Sub.cons rfl (Sub.cons rfl Sub.nil))))))))))))) (List.Perm.refl _) ?_
        intro k hk
        refine At.seq (tR (tM rfl rfl (tM rfl rfl (tV (Val.len (bt := #[]) Tryz.underlying25 rfl) rfl (tV (Val.bin rfl rfl rfl) rfl (tE ?_))))))
        refine At.cond rfl (fun h75 => ?_) (fun h75 => ?_)
        ·try simp only [hasB, isSizeB, sB] at h75
         refine At.skipC (At.thenN (At.seq (At.block (tR (tM rfl rfl (tM rfl rfl (tV (Val.indexRowP (i := 6) (k * 2) (by omega) Tryz.underlying25 Tryz.sizeOf45 rfl rfl rfl (by omega) (by omega) (by omega)) rfl (tV (Val.field ((k * 2 + 0)) rfl fo_45_0 rfl) rfl (tV (Val.loadRow (u := .int .i64 (0 - (k : Int) - 1)) (i := 6) Tryz.isAgg3 rfl rfl (prC_at (hDb k (by omega))).1) rfl (tM rfl rfl (tV (Val.neg rfl) rfl ?_)))))))))))
         rw [wrap_i64 (by omega) (by omega)]
         first | refine tV (Val.subI rfl rfl (by omega) (by omega)) rfl ?_ | refine tV (Val.bin rfl rfl rfl) rfl ?_
         refine tV (Val.bin rfl rfl rfl) rfl ?_
         rw [bne_self_eq_false]
         refine tM rfl rfl (At.yes rfl rfl (tM rfl rfl (At.yes rfl rfl (tM rfl rfl (At.yes rfl rfl (tV (Val.indexRow (i := 6) (k * 2) (by omega) Tryz.underlying25 Tryz.sizeOf45 rfl rfl rfl (by omega) (by omega)) rfl (At.yes rfl rfl (tV (Val.field ((k * 2 + 0)) rfl fo_45_0 rfl) rfl (At.yes rfl rfl (tV (Val.loadRow (u := .int .i64 (0 - (k : Int) - 1)) (i := 6) Tryz.isAgg3 rfl rfl (prC_at (hDb k (by omega))).1) rfl (At.yes rfl rfl (tM rfl rfl (At.yes rfl rfl (tV (Val.neg rfl) rfl ?_))))))))))))))
         rw [wrap_i64 (by omega) (by omega)]
         refine At.yes rfl rfl ?_
         first | refine tV (Val.subI rfl rfl (by omega) (by omega)) rfl ?_ | refine tV (Val.bin rfl rfl rfl) rfl ?_
         refine At.yes rfl rfl (tV (Val.bin rfl rfl rfl) rfl ?_)
         rw [bne_self_eq_false]
         refine tV (Val.pickF rfl rfl) rfl (tM rfl rfl (At.yes rfl rfl (tM rfl rfl (At.yes rfl rfl (tM rfl rfl (At.yes rfl rfl (tV (Val.indexRowP (i := 6) (k * 2) (by omega) Tryz.underlying25 Tryz.sizeOf45 rfl rfl rfl (by omega) (by omega) (by omega)) rfl (At.yes rfl rfl (tV (Val.field ((k * 2 + 1)) rfl fo_45_1 rfl) rfl (At.yes rfl rfl (tV (Val.loadRow (u := b64 (BitVec.ofNat 64 k)) (i := 6) Tryz.isAgg43 rfl rfl (prC_at (hDb k (by omega))).2) rfl (At.yes rfl rfl (tM rfl rfl (At.yes rfl rfl (tV (Val.conv Tryz.underlying3 Tryz.underlying43 rfl) rfl ?_)))))))))))))))
         rw [wrap_u64_nat]
         refine At.yes rfl rfl (tV (Val.bin rfl rfl rfl) rfl ?_)
         rw [bne_self_eq_false]
         refine tV (Val.pickF rfl rfl) rfl (tE (At.condF rfl (At.skipC (At.blkN (At.thenN (At.region (tM rfl rfl ?_)))))))
         first | refine tV (Val.addI rfl rfl (by omega) (by omega)) rfl ?_ | refine tV (Val.bin rfl rfl rfl) rfl ?_
         refine tA rfl rfl (tE ?_)
         exact At.again (k + 1) (show k + 1 ≤ _ by omega) (by omega) (Sub.cons rfl (Sub.cons rfl (Sub.cons rfl (Sub.cons rfl (Sub.cons rfl (Sub.cons rfl (Sub.cons rfl (Sub.cons rfl (Sub.cons rfl (Sub.cons rfl (Sub.cons rfl (Sub.cons rfl (Sub.cons (congrArg (fun z => some (Value.int IntKind.i64 z)) (by omega)) Sub.nil))))))))))))) (List.Perm.refl _)
        ·try simp only [hasB, isSizeB, sB] at h75
         refine At.exitC (At.thenX (At.thenX (At.blkX (At.thenN (At.seq (tR (tA rfl rfl (tE (At.block ?_)))))))))
         skip
         refine At.loop (σ := Nat) (fun k => k ≤ la.length) (fun k => [(8, .pointer (some ⟨b3, 0, none⟩)), (9, (.slice A5 ((L).length) c6)), (10, (.slice A8 ((M).length) c9)), (11, va), (13, vb), (19, (.slice A56 ((G).length) c57)), (24, v59), (26, v72), (29, v74), (2, x), (32, .int .i64 (k : Int))]) (fun k => [rowR v74 5 1 (((ovR la)).length) (((ovR la)).map bv), rowR v73 45 2 ((L).length) (prC (L)), rowR v72 5 1 (((ovR lb)).length) (((ovR lb)).map bv), rowR v71 45 2 ((M).length) (prC (M)), rowR v59 5 1 (((G ++ [(9 : UInt8), 8, 7])).length) (((G ++ [(9 : UInt8), 8, 7])).map bv), rowR (.slice A56 ((G).length) c57) 5 1 ((G).length) ((G).map bv), rowR (.slice A49 (D ++ [((77 : Int), (0 : BitVec 64)), (78, 0)]).length c50) 45 2 (((D ++ [((77 : Int), (0 : BitVec 64)), (78, 0)])).length) (prC ((D ++ [((77 : Int), (0 : BitVec 64)), (78, 0)]))), rowR vk 5 1 ((la).length) ((la).map bv), rowR vb 5 1 ((lb).length) ((lb).map bv), rowR va 5 1 ((la).length) ((la).map bv), rowR (.slice A8 ((M).length) c9) 45 2 ((M).length) (prC (M)), rowR (.slice A5 ((L).length) c6) 45 2 ((L).length) (prC (L)), blk b3 31 ([.int .i64 (supS p i c).1, .int .i64 (supS p i c).2.1, .int .i64 (supS p i c).2.2, .int .i64 (4 + (supS p i c).2.1 / 8)])]) (fun k => la.length - k) 0 (Nat.zero_le _) (Sub.cons rfl (Sub.cons rfl (Sub.cons rfl (Sub.cons rfl (Sub.cons rfl (Sub.cons rfl (Sub.cons rfl (Sub.cons rfl (Sub.cons rfl (Sub.cons rfl (Sub.cons rfl Sub.nil))))))))))) (List.Perm.refl _) ?_
         intro k hk
         refine At.seq (tR (tM rfl rfl (tM rfl rfl (tV (Val.lenRow (i := 5) Tryz.underlying29 rfl rfl) rfl (tV (Val.bin rfl rfl rfl) rfl (tE ?_))))))
         refine At.cond rfl (fun h76 => ?_) (fun h76 => ?_)
         ·try simp only [hasB, isSizeB, sB] at h76
          refine At.skipC (At.thenN (At.seq (At.block (tR (tM rfl rfl (tM rfl rfl (tV (Val.indexRow (i := 5) k (by omega) Tryz.underlying29 Tryz.sizeOf5 rfl rfl rfl (by omega) (by omega)) rfl (tV (Val.loadRowB (c := UInt8.ofNat (k + 1)) (i := 5) Tryz.isAgg5 rfl rfl (hGa k (by omega))) rfl (tM rfl rfl (tV (Val.addI rfl rfl (by omega) (by omega)) rfl ?_))))))))))
          rw [show (k : Int) + 1 = ((k + 1 : Nat) : Int) from by omega]
          refine tV (Val.toB Tryz.underlying3 Tryz.underlying5 rfl (Int.natCast_nonneg _)) rfl ?_
          rw [Int.toNat_natCast]
          refine tV (Val.bin rfl rfl rfl) rfl ?_
          rw [bne_self_eq_false]
          refine tM rfl rfl (At.yes rfl rfl (tM rfl rfl (At.yes rfl rfl (tM rfl rfl (At.yes rfl rfl (tV (Val.indexRow (i := 4) k (by omega) Tryz.underlying29 Tryz.sizeOf5 rfl rfl rfl (by omega) (by omega)) rfl (At.yes rfl rfl (tV (Val.loadRowB (c := UInt8.ofNat (k + 1)) (i := 4) Tryz.isAgg5 rfl rfl (hGb k (by omega))) rfl (At.yes rfl rfl (tM rfl rfl (At.yes rfl rfl (tV (Val.addI rfl rfl (by omega) (by omega)) rfl ?_))))))))))))
          rw [show (k : Int) + 1 = ((k + 1 : Nat) : Int) from by omega]
          refine At.yes rfl rfl (tV (Val.toB Tryz.underlying3 Tryz.underlying5 rfl (Int.natCast_nonneg _)) rfl ?_)
          rw [Int.toNat_natCast]
          refine At.yes rfl rfl (tV (Val.bin rfl rfl rfl) rfl ?_)
          rw [bne_self_eq_false]
          refine tV (Val.pickF rfl rfl) rfl (tE (At.condF rfl (At.skipC (At.blkN (At.thenN (At.region (tM rfl rfl ?_)))))))
          first | refine tV (Val.addI rfl rfl (by omega) (by omega)) rfl ?_ | refine tV (Val.bin rfl rfl rfl) rfl ?_
          refine tA rfl rfl (tE ?_)
          exact At.again (k + 1) (show k + 1 ≤ _ by omega) (by omega) (Sub.cons rfl (Sub.cons rfl (Sub.cons rfl (Sub.cons rfl (Sub.cons rfl (Sub.cons rfl (Sub.cons rfl (Sub.cons rfl (Sub.cons rfl (Sub.cons rfl (Sub.cons (congrArg (fun z => some (Value.int IntKind.i64 z)) (by omega)) Sub.nil))))))))))) (List.Perm.refl _)
         ·try simp only [hasB, isSizeB, sB] at h76
          refine At.exitC (At.thenX (At.thenX (At.blkX (At.thenN (At.seq (At.seq (At.drop 1 ?_)))))))
          simp only [ec0, ecS]
          refine At.drop 2 ?_
          simp only [ec0, ecS]
          refine At.drop 2 ?_
          simp only [ec0, ecS]
          refine At.drop 2 ?_
          simp only [ec0, ecS]
          refine At.drop 2 ?_
          simp only [ec0, ecS]
          refine At.drop 2 ?_
          simp only [ec0, ecS]
          refine At.region (tA rfl rfl (tE (At.block ?_)))
          skip
          refine At.loop (σ := Nat) (fun k => k ≤ L.length) (fun k => [(8, .pointer (some ⟨b3, 0, none⟩)), (9, (.slice A5 ((L).length) c6)), (10, (.slice A8 ((M).length) c9)), (11, va), (13, vb), (26, v72), (29, v74), (2, x), (33, .int .i64 (k : Int))]) (fun k => [rowR v74 5 1 (((ovR la)).length) (((ovR la)).map bv), rowR v72 5 1 (((ovR lb)).length) (((ovR lb)).map bv), rowR vb 5 1 ((lb).length) ((lb).map bv), rowR va 5 1 ((la).length) ((la).map bv), rowR (.slice A8 ((M).length) c9) 45 2 ((M).length) (prC (M)), rowR (.slice A5 ((L).length) c6) 45 2 ((L).length) (prC (L)), blk b3 31 ([.int .i64 (supS p i c).1, .int .i64 (supS p i c).2.1, .int .i64 (supS p i c).2.2, .int .i64 (4 + (supS p i c).2.1 / 8)])]) (fun k => L.length - k) 0 (Nat.zero_le _) (Sub.cons rfl (Sub.cons rfl (Sub.cons rfl (Sub.cons rfl (Sub.cons rfl (Sub.cons rfl (Sub.cons rfl (Sub.cons rfl (Sub.cons rfl Sub.nil))))))))) (List.Perm.refl _) ?_
          intro k hk
          refine At.seq (tR (tM rfl rfl (tM rfl rfl (tV (Val.lenRow (i := 5) Tryz.underlying25 rfl rfl) rfl (tV (Val.bin rfl rfl rfl) rfl (tE ?_))))))
          refine At.cond rfl (fun h77 => ?_) (fun h77 => ?_)
          ·try simp only [hasB, isSizeB, sB] at h77
           obtain ⟨q, hq⟩ : ∃ q, L[k]? = some q := ⟨_, List.getElem?_eq_getElem (by omega)⟩
           have hqt := pl_all htA.pl q (List.mem_of_getElem? hq)
           unfold TW at hqt
           refine At.skipC (At.thenN (At.seq (At.block (At.seq (At.quiet rfl (by decide +kernel) (qM rfl rfl (qM rfl rfl (qM rfl rfl (qV (Val.indexRow (i := 5) (k * 2) (by omega) Tryz.underlying25 Tryz.sizeOf45 rfl rfl rfl (by omega) (by omega)) rfl (qV (Val.field ((k * 2 + 0)) rfl fo_45_0 rfl) rfl (qV (Val.loadRow (u := .int .i64 q.1) (i := 5) Tryz.isAgg3 rfl rfl (prC_at hq).1) rfl ?_)))))))))))
           refine QAt.callP (fun w hw => (by have h0 := wordJ_p _ (ovR la) q.1.toNat w (row_rd (hw.row (i := 0) rfl) (by decide)) (by omega) (by omega); rwa [show ((q.1.toNat : Nat) : Int) = q.1 from by omega, htA.word (List.mem_of_getElem? hq)] at h0)) Tryz.call19 rfl rfl (qM rfl rfl (qM rfl rfl (qV (Val.indexRow (i := 5) (k * 2) (by omega) Tryz.underlying25 Tryz.sizeOf45 rfl rfl rfl (by omega) (by omega)) rfl (qV (Val.field ((k * 2 + 1)) rfl fo_45_1 rfl) rfl (qV (Val.loadRow (u := b64 q.2) (i := 5) Tryz.isAgg43 rfl rfl (prC_at hq).2) rfl (qV (Val.bin rfl rfl rfl) rfl ?_))))))
           rw [bne_self_eq_false]
           refine QAt.fin (At.thenN (At.condF rfl (At.skipC (At.blkN (At.thenN (At.region (tM rfl rfl ?_)))))))
           first | refine tV (Val.addI rfl rfl (by omega) (by omega)) rfl ?_ | refine tV (Val.bin rfl rfl rfl) rfl ?_
           refine tA rfl rfl (tE ?_)
           exact At.again (k + 1) (show k + 1 ≤ _ by omega) (by omega) (Sub.cons rfl (Sub.cons rfl (Sub.cons rfl (Sub.cons rfl (Sub.cons rfl (Sub.cons rfl (Sub.cons rfl (Sub.cons rfl (Sub.cons (congrArg (fun z => some (Value.int IntKind.i64 z)) (by omega)) Sub.nil))))))))) (List.Perm.refl _)
          ·try simp only [hasB, isSizeB, sB] at h77
           refine At.exitC (At.thenX (At.thenX (At.blkX (At.thenN (At.seq (tR (tA rfl rfl (tE (At.block ?_)))))))))
           skip
           refine At.loop (σ := Nat) (fun k => k ≤ M.length) (fun k => [(8, .pointer (some ⟨b3, 0, none⟩)), (10, (.slice A8 ((M).length) c9)), (11, va), (13, vb), (26, v72), (29, v74), (2, x), (34, .int .i64 (k : Int))]) (fun k => [rowR v74 5 1 (((ovR la)).length) (((ovR la)).map bv), rowR v72 5 1 (((ovR lb)).length) (((ovR lb)).map bv), rowR vb 5 1 ((lb).length) ((lb).map bv), rowR va 5 1 ((la).length) ((la).map bv), rowR (.slice A8 ((M).length) c9) 45 2 ((M).length) (prC (M)), rowR (.slice A5 ((L).length) c6) 45 2 ((L).length) (prC (L)), blk b3 31 ([.int .i64 (supS p i c).1, .int .i64 (supS p i c).2.1, .int .i64 (supS p i c).2.2, .int .i64 (4 + (supS p i c).2.1 / 8)])]) (fun k => M.length - k) 0 (Nat.zero_le _) (Sub.cons rfl (Sub.cons rfl (Sub.cons rfl (Sub.cons rfl (Sub.cons rfl (Sub.cons rfl (Sub.cons rfl (Sub.cons rfl Sub.nil)))))))) (List.Perm.refl _) ?_
           intro k hk
           refine At.seq (tR (tM rfl rfl (tM rfl rfl (tV (Val.lenRow (i := 4) Tryz.underlying25 rfl rfl) rfl (tV (Val.bin rfl rfl rfl) rfl (tE ?_))))))
           refine At.cond rfl (fun h78 => ?_) (fun h78 => ?_)
           ·try simp only [hasB, isSizeB, sB] at h78
            obtain ⟨q, hq⟩ : ∃ q, M[k]? = some q := ⟨_, List.getElem?_eq_getElem (by omega)⟩
            have hqt := pl_all htB.pl q (List.mem_of_getElem? hq)
            unfold TW at hqt
            refine At.skipC (At.thenN (At.seq (At.block (At.seq (At.quiet rfl (by decide +kernel) (qM rfl rfl (qM rfl rfl (qM rfl rfl (qV (Val.indexRow (i := 4) (k * 2) (by omega) Tryz.underlying25 Tryz.sizeOf45 rfl rfl rfl (by omega) (by omega)) rfl (qV (Val.field ((k * 2 + 0)) rfl fo_45_0 rfl) rfl (qV (Val.loadRow (u := .int .i64 q.1) (i := 4) Tryz.isAgg3 rfl rfl (prC_at hq).1) rfl ?_)))))))))))
            refine QAt.callP (fun w hw => (by have h0 := wordJ_p _ (ovR lb) q.1.toNat w (row_rd (hw.row (i := 1) rfl) (by decide)) (by omega) (by omega); rwa [show ((q.1.toNat : Nat) : Int) = q.1 from by omega, htB.word (List.mem_of_getElem? hq)] at h0)) Tryz.call19 rfl rfl (qM rfl rfl (qM rfl rfl (qV (Val.indexRow (i := 4) (k * 2) (by omega) Tryz.underlying25 Tryz.sizeOf45 rfl rfl rfl (by omega) (by omega)) rfl (qV (Val.field ((k * 2 + 1)) rfl fo_45_1 rfl) rfl (qV (Val.loadRow (u := b64 q.2) (i := 4) Tryz.isAgg43 rfl rfl (prC_at hq).2) rfl (qV (Val.bin rfl rfl rfl) rfl ?_))))))
            rw [bne_self_eq_false]
            refine QAt.fin (At.thenN (At.condF rfl (At.skipC (At.blkN (At.thenN (At.region (tM rfl rfl ?_)))))))
            first | refine tV (Val.addI rfl rfl (by omega) (by omega)) rfl ?_ | refine tV (Val.bin rfl rfl rfl) rfl ?_
            refine tA rfl rfl (tE ?_)
            exact At.again (k + 1) (show k + 1 ≤ _ by omega) (by omega) (Sub.cons rfl (Sub.cons rfl (Sub.cons rfl (Sub.cons rfl (Sub.cons rfl (Sub.cons rfl (Sub.cons rfl (Sub.cons (congrArg (fun z => some (Value.int IntKind.i64 z)) (by omega)) Sub.nil)))))))) (List.Perm.refl _)
           ·try simp only [hasB, isSizeB, sB] at h78
            refine At.exitC (At.thenX (At.thenX (At.blkX (At.thenN (At.seq ?_)))))
            apply At.any (t := 21)
            · rfl
            refine KAt.pin (fun w hw => hw) (KAt.take 0 (Val.move rfl) rfl rfl rfl rfl (fun w hw => hw) (by decide +kernel) (KAt.take 1 (Val.lenRow (i := 0) Tryz.underlying29 rfl rfl) rfl rfl rfl rfl (fun w hw => hw) (by decide +kernel) (KAt.take 2 (Val.move rfl) rfl rfl rfl rfl (fun w hw => hw) (by decide +kernel) (KAt.take 3 (Val.lenRow (i := 3) Tryz.underlying29 rfl rfl) rfl rfl rfl rfl (fun w hw => hw) (by decide +kernel) (KAt.take 4 (Val.bin rfl rfl rfl) rfl rfl rfl rfl (fun w hw => hw) (by decide +kernel) ?_)))))
            rw [show (((ovR la).length : Nat) : Int) = (la.length : Nat) from by rw [hoa], beq_self_eq_true]
            refine KAt.take 5 (Val.move rfl) rfl rfl rfl rfl (fun w hw => hw) (by decide +kernel) (KAt.takeY 6 (Val.move rfl) rfl rfl rfl rfl (fun w hw => hw) (by decide +kernel) (KAt.takeY 7 (Val.lenRow (i := 1) Tryz.underlying29 rfl rfl) rfl rfl rfl rfl (fun w hw => hw) (by decide +kernel) (KAt.takeY 8 (Val.move rfl) rfl rfl rfl rfl (fun w hw => hw) (by decide +kernel) (KAt.takeY 9 (Val.lenRow (i := 2) Tryz.underlying29 rfl rfl) rfl rfl rfl rfl (fun w hw => hw) (by decide +kernel) (KAt.takeY 10 (Val.bin rfl rfl rfl) rfl rfl rfl rfl (fun w hw => hw) (by decide +kernel) ?_)))))
            rw [show (((ovR lb).length : Nat) : Int) = (lb.length : Nat) from by rw [hob], beq_self_eq_true]
            refine KAt.take 11 (Val.pickT rfl rfl) rfl rfl rfl rfl (fun w hw => hw) (by decide +kernel) (KAt.take 12 (Val.move rfl) rfl rfl rfl rfl (fun w hw => hw) (by decide +kernel) (KAt.takeY 13 (Val.move rfl) rfl rfl rfl rfl (fun w hw => hw) (by decide +kernel) (KAt.takeY 14 (Val.loadAll (i := 6) Tryz.isAgg31 Tryz.sizeOf31 rfl rfl rfl) rfl rfl rfl rfl (fun w hw => hw) (by decide +kernel) (KAt.takeY 15 (Val.move rfl) rfl rfl rfl rfl (fun w hw => hw) (by decide +kernel) (KAt.takeY 16 (Val.loadAll (i := 6) Tryz.isAgg31 Tryz.sizeOf31 rfl rfl rfl) rfl rfl rfl rfl (fun w hw => hw) (by decide +kernel) (KAt.only 17 rfl (by decide +kernel) (At.yes rfl rfl (At.callN (fun w hw => changesJ_n x T2 (supS p i c).1 (supS p i c).2.1 (supS p i c).2.2 (4 + (supS p i c).2.1 / 8) w (hx.mod hw.mod) hT2 hsi) Tryz.call21 rfl rfl (fun v79 => ?_)))))))))
            rw [← hM]
            refine At.nil (KAt.go (fun w hw => hw.drop (List.Sublist.cons _ (List.Sublist.cons_cons _ (List.Sublist.cons_cons _ (List.Sublist.cons_cons _ (List.Sublist.cons_cons _ (List.Sublist.cons_cons _ (List.Sublist.cons_cons _ (List.Sublist.cons_cons _ (List.Sublist.refl _)))))))))) (KAt.only 18 rfl (by decide +kernel) (At.yes rfl rfl (At.callP (fun w hw => lentIn_p _ _ la L M (supS p i c) w (ht.mod hw.mod) (row_rd (hw.row (i := 4) rfl) (by decide)) (row_rd (hw.row (i := 0) rfl) (by decide)) htA hL1 hM1 hM8 hMp) Tryz.call20 rfl rfl (At.nil (KAt.go (fun w hw => hw.drop (List.Sublist.cons _ (List.Sublist.cons_cons _ (List.Sublist.cons_cons _ (List.Sublist.cons_cons _ (List.Sublist.cons_cons _ (List.Sublist.cons_cons _ (List.Sublist.cons_cons _ (List.Sublist.cons_cons _ (List.Sublist.refl _)))))))))) (KAt.take 19 (Val.pickT rfl rfl) rfl rfl rfl rfl (fun w hw => hw.drop (List.Sublist.cons _ (List.Sublist.cons_cons _ (List.Sublist.cons_cons _ (List.Sublist.cons_cons _ (List.Sublist.cons_cons _ (List.Sublist.cons_cons _ (List.Sublist.cons_cons _ (List.Sublist.cons_cons _ (List.Sublist.refl _)))))))))) (by decide +kernel) (KAt.take 20 (Val.assign rfl) rfl rfl rfl rfl (fun w hw => hw.drop (List.Sublist.cons _ (List.Sublist.cons_cons _ (List.Sublist.cons_cons _ (List.Sublist.cons_cons _ (List.Sublist.cons_cons _ (List.Sublist.cons_cons _ (List.Sublist.cons_cons _ (List.Sublist.cons_cons _ (List.Sublist.refl _)))))))))) (by decide +kernel) (KAt.done (by decide +kernel) (At.thenN (At.retC (At.ret1 (.inl rfl) rfl rfl rfl (fun w hw => ?_)))))))))))))
            exact ⟨rfl, hw.mod⟩
     ·refine At.drop 1 ?_
      simp only [ec0, ecS]
      refine tA rfl rfl (tE (At.seq (tR (tA rfl rfl (tE (At.block ?_))))))
      skip
      refine At.loop (σ := Nat) (fun k => k ≤ (ovR la).length) (fun k => [(8, .pointer (some ⟨b3, 0, none⟩)), (9, (.slice A5 ((L).length) c6)), (10, (.slice A8 ((M).length) c9)), (11, va), (13, vb), (15, vk), (17, (.slice A49 ((D).length) c50)), (19, v47), (22, v52), (2, x), (23, .int .i64 (k : Int))]) (fun k => [rowR v52 45 2 (((D ++ [((77 : Int), (0 : BitVec 64)), (78, 0)])).length) (prC ((D ++ [((77 : Int), (0 : BitVec 64)), (78, 0)]))), rowR v47 5 1 (((scrB k (ovR la))).length) (((scrB k (ovR la))).map bv), rowR (.slice A49 ((D).length) c50) 45 2 ((D).length) (prC (D)), rowR vk 5 1 ((la).length) ((la).map bv), rowR vb 5 1 ((lb).length) ((lb).map bv), rowR va 5 1 ((la).length) ((la).map bv), rowR (.slice A8 ((M).length) c9) 45 2 ((M).length) (prC (M)), rowR (.slice A5 ((L).length) c6) 45 2 ((L).length) (prC (L)), blk b3 31 ([.int .i64 (supS p i c).1, .int .i64 (supS p i c).2.1, .int .i64 (supS p i c).2.2, .int .i64 (4 + (supS p i c).2.1 / 8)])]) (fun k => (ovR la).length - k) 0 (Nat.zero_le _) (Sub.cons rfl (Sub.cons rfl (Sub.cons rfl (Sub.cons rfl (Sub.cons rfl (Sub.cons rfl (Sub.cons rfl (Sub.cons rfl (Sub.cons rfl (Sub.cons rfl (Sub.cons rfl Sub.nil))))))))))) (by rw [scrB_0]) ?_
      intro k hs
      have hbl := scrB_length k (ovR la)
      refine At.seq (tR (tM rfl rfl (tM rfl rfl (tV (Val.lenRow (i := 1) Tryz.underlying29 rfl rfl) rfl (tV (Val.bin rfl rfl rfl) rfl (tE ?_))))))
      refine At.cond rfl (fun h80 => ?_) (fun h80 => ?_)
      ·try simp only [hasB, isSizeB, sB] at h80
       refine At.skipC (At.thenN (At.seq (At.block (At.region (tM rfl rfl (tM rfl rfl (tM rfl rfl (tV (Val.addI rfl rfl (by omega) (by omega)) rfl ?_))))))))
       rw [show (k : Int) + 1 = ((k + 1 : Nat) : Int) from by omega]
       refine tV (Val.toB Tryz.underlying3 Tryz.underlying5 rfl (Int.natCast_nonneg _)) rfl ?_
       rw [Int.toNat_natCast]
       refine tV (Val.indexRow (i := 1) k (by omega) Tryz.underlying29 Tryz.sizeOf5 rfl rfl rfl (by omega) (by omega)) rfl (At.storeRowB (i := 1) (c := UInt8.ofNat (k + 1)) Tryz.sizeOf5 rfl rfl rfl (by omega) ?_)
       simp only [sc0, scS]
       rw [scrB_set (by omega)]
       refine At.nil (At.blkN (At.thenN (At.region (tM rfl rfl ?_))))
       first | refine tV (Val.addI rfl rfl (by omega) (by omega)) rfl ?_ | refine tV (Val.bin rfl rfl rfl) rfl ?_
       refine tA rfl rfl (tE ?_)
       exact At.again (k + 1) (show k + 1 ≤ _ by omega) (by omega) (Sub.cons rfl (Sub.cons rfl (Sub.cons rfl (Sub.cons rfl (Sub.cons rfl (Sub.cons rfl (Sub.cons rfl (Sub.cons rfl (Sub.cons rfl (Sub.cons rfl (Sub.cons (congrArg (fun z => some (Value.int IntKind.i64 z)) (by omega)) Sub.nil))))))))))) (List.Perm.refl _)
      ·try simp only [hasB, isSizeB, sB] at h80
       refine At.exitC (At.thenX (At.thenX (At.blkX (At.thenN (At.seq ?_)))))
       obtain rfl : k = (ovR la).length := by omega
       obtain ⟨G, hG⟩ : ∃ G, G = scrB (ovR la).length (ovR la) := ⟨_, rfl⟩
       have hGl : G.length = la.length := by rw [hG, hbl, hoa]
       have hGa : ∀ j : Nat, j < la.length → G[j]? = some (UInt8.ofNat (j + 1)) := fun j hj => by rw [hG, scrB_get (by omega), if_pos (by omega)]
       have hGb : ∀ j : Nat, j < la.length → (G ++ [(9 : UInt8), 8, 7])[j]? = some (UInt8.ofNat (j + 1)) := fun j hj => by rw [List.getElem?_append_left (by omega)]; exact hGa j hj
       have hGbl : (G ++ [(9 : UInt8), 8, 7]).length = la.length + 3 := by rw [List.length_append, hGl]; rfl
       rw [← hG]
       refine At.rowIs (i := 1) rfl (fun A81 c82 hv => ?_)
       subst hv
       refine At.region (tM rfl rfl (At.buildSl (fun a ha => by simp only [List.map_toArray, List.map_cons, List.map_nil, ha.eval (x := (.const (.int .u8 (9)))) rfl, ha.eval (x := (.const (.int .u8 (8)))) rfl, ha.eval (x := (.const (.int .u8 (7)))) rfl]; try rfl) (bs_29_3 _ _ _ ) rfl (fun b83 => (At.append2B (i := 2) (j := 0) (m := [(9 : UInt8), 8, 7]) (by_ := 1) Tryz.underlying29 info_5 rfl rfl rfl rfl rfl rfl rfl rfl rfl (by omega) (by omega) rfl (fun v84 H85 hor86 => ?_)))))
       rcases hor86 with ⟨rfl, rfl⟩ | rfl
       ·simp only [sc0, scS]
        refine At.drop 0 ?_
        simp only [ec0, ecS]
        refine tA rfl rfl (tE (tR (tM rfl rfl (At.callNT (g := (fun v => .tuple #[v, .int .i64 (pndE lb)])) (fun w hw => pending_n _ lb w (ht.mod hw.mod) (row_rd (hw.row (i := 4) rfl) (by decide)) (by omega)) Tryz.call15 rfl rfl (fun v87 => ?_)))))
        rw [htB.pnd.1, htB.pnd.2]
        refine tM rfl rfl (tV (Val.extract rfl rfl) rfl (tV (Val.extract rfl rfl) rfl (tA rfl rfl (tA rfl rfl (tE (tR (tM rfl rfl (At.callNT (g := (fun v => .tuple #[v, .int .i64 (pndE lb)])) (fun w hw => overlay_n _ lb w (ht.mod hw.mod) (row_rd (hw.row (i := 5) rfl) (by decide)) (by omega)) Tryz.call16 rfl rfl (fun v88 => ?_)))))))))
        rw [htB.pnd.1]
        refine tM rfl rfl (tV (Val.extract rfl rfl) rfl (tV (Val.extract rfl rfl) rfl (tA rfl rfl (tA rfl rfl (tE (tR (tM rfl rfl (At.callNT (g := (fun v => .tuple #[v, .int .i64 (pndE la)])) (fun w hw => pending_n _ la w (ht.mod hw.mod) (row_rd (hw.row (i := 7) rfl) (by decide)) (by omega)) Tryz.call15 rfl rfl (fun v89 => ?_)))))))))
        rw [htA.pnd.1, htA.pnd.2]
        refine tM rfl rfl (tV (Val.extract rfl rfl) rfl (tV (Val.extract rfl rfl) rfl (tA rfl rfl (tA rfl rfl (tE (tR (tM rfl rfl (At.callNT (g := (fun v => .tuple #[v, .int .i64 (pndE la)])) (fun w hw => overlay_n _ la w (ht.mod hw.mod) (row_rd (hw.row (i := 8) rfl) (by decide)) (by omega)) Tryz.call16 rfl rfl (fun v90 => ?_)))))))))
        rw [htA.pnd.1]
        refine tM rfl rfl (tV (Val.extract rfl rfl) rfl (tV (Val.extract rfl rfl) rfl (tA rfl rfl (tA rfl rfl (tE (At.seq (tR (tM rfl rfl (tV (Val.bin rfl rfl rfl) rfl (tM rfl rfl (At.yes rfl rfl (tM rfl rfl (At.yes rfl rfl (tV (Val.bin rfl rfl rfl) rfl (tV (Val.pickF rfl rfl) rfl (tM rfl rfl (At.yes rfl rfl (tM rfl rfl (At.yes rfl rfl (tV (Val.bin rfl rfl rfl) rfl (tV (Val.pickF rfl rfl) rfl (tM rfl rfl (At.yes rfl rfl (tM rfl rfl (At.yes rfl rfl (tV (Val.bin rfl rfl rfl) rfl (tV (Val.pickF rfl rfl) rfl (tM rfl rfl (At.yes rfl rfl (tM rfl rfl (At.yes rfl rfl (tM rfl rfl (At.yes rfl rfl (At.callP (fun w hw => sameUnJ_p _ _ M w (row_rd (hw.row (i := 3) rfl) (by decide)) (row_rd (hw.row (i := 10) rfl) (by decide)) (by omega)) Tryz.call17 rfl rfl (At.yes rfl rfl (tV (Val.not rfl) rfl (tV (Val.pickF rfl rfl) rfl (tM rfl rfl (At.yes rfl rfl ?_)))))))))))))))))))))))))))))))))))))))
        refine tM rfl rfl (At.yes rfl rfl (tM rfl rfl (At.yes rfl rfl (At.callP (fun w hw => sameUnJ_p _ _ L w (row_rd (hw.row (i := 1) rfl) (by decide)) (row_rd (hw.row (i := 11) rfl) (by decide)) (by omega)) Tryz.call17 rfl rfl (At.yes rfl rfl (tV (Val.not rfl) rfl (tV (Val.pickF rfl rfl) rfl (tM rfl rfl (At.yes rfl rfl (tM rfl rfl (At.yes rfl rfl (tM rfl rfl (At.yes rfl rfl ?_)))))))))))))
        refine At.callP (fun w hw => (by have h0 := sameBytes_p _ _ la la w (row_rd (hw.row (i := 9) rfl) (by decide)) (row_rd (hw.row (i := 7) rfl) (by decide)) (by omega) (by omega); rwa [decide_eq_true rfl] at h0)) Tryz.call18 rfl rfl (At.yes rfl rfl (tV (Val.not rfl) rfl (tV (Val.pickF rfl rfl) rfl (tE (At.condF rfl (At.skipC (At.thenN (At.seq (tR (tA rfl rfl (tE (At.block ?_))))))))))))
        skip
        refine At.loop (σ := Nat) (fun k => k ≤ L.length) (fun k => [(8, .pointer (some ⟨b3, 0, none⟩)), (9, (.slice A5 ((L).length) c6)), (10, (.slice A8 ((M).length) c9)), (11, va), (13, vb), (17, (.slice A49 ((D).length) c50)), (19, (.slice A81 G.length c82)), (22, v52), (24, (.slice A81 (G ++ [(9 : UInt8), 8, 7]).length c82)), (26, v88), (29, v90), (2, x), (31, .int .i64 (k : Int))]) (fun k => [rowR v90 5 1 (((ovR la)).length) (((ovR la)).map bv), rowR v89 45 2 ((L).length) (prC (L)), rowR v88 5 1 (((ovR lb)).length) (((ovR lb)).map bv), rowR v87 45 2 ((M).length) (prC (M)), rowR v52 45 2 (((D ++ [((77 : Int), (0 : BitVec 64)), (78, 0)])).length) (prC ((D ++ [((77 : Int), (0 : BitVec 64)), (78, 0)]))), rowR (.slice A81 (G ++ [(9 : UInt8), 8, 7]).length c82) 5 1 (((G ++ [(9 : UInt8), 8, 7])).length) (((G ++ [(9 : UInt8), 8, 7])).map bv), rowR (.slice A49 ((D).length) c50) 45 2 ((D).length) (prC (D)), rowR vk 5 1 ((la).length) ((la).map bv), rowR vb 5 1 ((lb).length) ((lb).map bv), rowR va 5 1 ((la).length) ((la).map bv), rowR (.slice A8 ((M).length) c9) 45 2 ((M).length) (prC (M)), rowR (.slice A5 ((L).length) c6) 45 2 ((L).length) (prC (L)), blk b3 31 ([.int .i64 (supS p i c).1, .int .i64 (supS p i c).2.1, .int .i64 (supS p i c).2.2, .int .i64 (4 + (supS p i c).2.1 / 8)])]) (fun k => L.length - k) 0 (Nat.zero_le _) (Sub.cons rfl (Sub.cons rfl (Sub.cons rfl (Sub.cons rfl (Sub.cons rfl (Sub.cons rfl (Sub.cons rfl (Sub.cons rfl (Sub.cons rfl (Sub.cons rfl (Sub.cons rfl (Sub.cons rfl (Sub.cons rfl Sub.nil))))))))))))) (List.Perm.refl _) ?_
        intro k hk
        refine At.seq (tR (tM rfl rfl (tM rfl rfl (tV (Val.lenRow (i := 6) Tryz.underlying25 rfl rfl) rfl (tV (Val.bin rfl rfl rfl) rfl (tE ?_))))))
        refine At.cond rfl (fun h91 => ?_) (fun h91 => ?_)
        ·try simp only [hasB, isSizeB, sB] at h91
         refine At.skipC (At.thenN (At.seq (At.block (tR (tM rfl rfl (tM rfl rfl (tV (Val.indexRow (i := 6) (k * 2) (by omega) Tryz.underlying25 Tryz.sizeOf45 rfl rfl rfl (by omega) (by omega)) rfl (tV (Val.field ((k * 2 + 0)) rfl fo_45_0 rfl) rfl (tV (Val.loadRow (u := .int .i64 (0 - (k : Int) - 1)) (i := 6) Tryz.isAgg3 rfl rfl (prC_at (hDa k (by omega))).1) rfl (tM rfl rfl (tV (Val.neg rfl) rfl ?_)))))))))))
         rw [wrap_i64 (by omega) (by omega)]
         first | refine tV (Val.subI rfl rfl (by omega) (by omega)) rfl ?_ | refine tV (Val.bin rfl rfl rfl) rfl ?_
         refine tV (Val.bin rfl rfl rfl) rfl ?_
         rw [bne_self_eq_false]
         refine tM rfl rfl (At.yes rfl rfl (tM rfl rfl (At.yes rfl rfl (tM rfl rfl (At.yes rfl rfl (tV (Val.indexRow (i := 4) (k * 2) (by omega) Tryz.underlying25 Tryz.sizeOf45 rfl rfl rfl (by omega) (by omega)) rfl (At.yes rfl rfl (tV (Val.field ((k * 2 + 0)) rfl fo_45_0 rfl) rfl (At.yes rfl rfl (tV (Val.loadRow (u := .int .i64 (0 - (k : Int) - 1)) (i := 4) Tryz.isAgg3 rfl rfl (prC_at (hDb k (by omega))).1) rfl (At.yes rfl rfl (tM rfl rfl (At.yes rfl rfl (tV (Val.neg rfl) rfl ?_))))))))))))))
         rw [wrap_i64 (by omega) (by omega)]
         refine At.yes rfl rfl ?_
         first | refine tV (Val.subI rfl rfl (by omega) (by omega)) rfl ?_ | refine tV (Val.bin rfl rfl rfl) rfl ?_
         refine At.yes rfl rfl (tV (Val.bin rfl rfl rfl) rfl ?_)
         rw [bne_self_eq_false]
         refine tV (Val.pickF rfl rfl) rfl (tM rfl rfl (At.yes rfl rfl (tM rfl rfl (At.yes rfl rfl (tM rfl rfl (At.yes rfl rfl (tV (Val.indexRow (i := 6) (k * 2) (by omega) Tryz.underlying25 Tryz.sizeOf45 rfl rfl rfl (by omega) (by omega)) rfl (At.yes rfl rfl (tV (Val.field ((k * 2 + 1)) rfl fo_45_1 rfl) rfl (At.yes rfl rfl (tV (Val.loadRow (u := b64 (BitVec.ofNat 64 k)) (i := 6) Tryz.isAgg43 rfl rfl (prC_at (hDa k (by omega))).2) rfl (At.yes rfl rfl (tM rfl rfl (At.yes rfl rfl (tV (Val.conv Tryz.underlying3 Tryz.underlying43 rfl) rfl ?_)))))))))))))))
         rw [wrap_u64_nat]
         refine At.yes rfl rfl (tV (Val.bin rfl rfl rfl) rfl ?_)
         rw [bne_self_eq_false]
         refine tV (Val.pickF rfl rfl) rfl (tE (At.condF rfl (At.skipC (At.blkN (At.thenN (At.region (tM rfl rfl ?_)))))))
         first | refine tV (Val.addI rfl rfl (by omega) (by omega)) rfl ?_ | refine tV (Val.bin rfl rfl rfl) rfl ?_
         refine tA rfl rfl (tE ?_)
         exact At.again (k + 1) (show k + 1 ≤ _ by omega) (by omega) (Sub.cons rfl (Sub.cons rfl (Sub.cons rfl (Sub.cons rfl (Sub.cons rfl (Sub.cons rfl (Sub.cons rfl (Sub.cons rfl (Sub.cons rfl (Sub.cons rfl (Sub.cons rfl (Sub.cons rfl (Sub.cons (congrArg (fun z => some (Value.int IntKind.i64 z)) (by omega)) Sub.nil))))))))))))) (List.Perm.refl _)
        ·try simp only [hasB, isSizeB, sB] at h91
         refine At.exitC (At.thenX (At.thenX (At.blkX (At.thenN (At.seq (tR (tA rfl rfl (tE (At.block ?_)))))))))
         skip
         refine At.loop (σ := Nat) (fun k => k ≤ la.length) (fun k => [(8, .pointer (some ⟨b3, 0, none⟩)), (9, (.slice A5 ((L).length) c6)), (10, (.slice A8 ((M).length) c9)), (11, va), (13, vb), (19, (.slice A81 G.length c82)), (24, (.slice A81 (G ++ [(9 : UInt8), 8, 7]).length c82)), (26, v88), (29, v90), (2, x), (32, .int .i64 (k : Int))]) (fun k => [rowR v90 5 1 (((ovR la)).length) (((ovR la)).map bv), rowR v89 45 2 ((L).length) (prC (L)), rowR v88 5 1 (((ovR lb)).length) (((ovR lb)).map bv), rowR v87 45 2 ((M).length) (prC (M)), rowR v52 45 2 (((D ++ [((77 : Int), (0 : BitVec 64)), (78, 0)])).length) (prC ((D ++ [((77 : Int), (0 : BitVec 64)), (78, 0)]))), rowR (.slice A81 (G ++ [(9 : UInt8), 8, 7]).length c82) 5 1 (((G ++ [(9 : UInt8), 8, 7])).length) (((G ++ [(9 : UInt8), 8, 7])).map bv), rowR (.slice A49 ((D).length) c50) 45 2 ((D).length) (prC (D)), rowR vk 5 1 ((la).length) ((la).map bv), rowR vb 5 1 ((lb).length) ((lb).map bv), rowR va 5 1 ((la).length) ((la).map bv), rowR (.slice A8 ((M).length) c9) 45 2 ((M).length) (prC (M)), rowR (.slice A5 ((L).length) c6) 45 2 ((L).length) (prC (L)), blk b3 31 ([.int .i64 (supS p i c).1, .int .i64 (supS p i c).2.1, .int .i64 (supS p i c).2.2, .int .i64 (4 + (supS p i c).2.1 / 8)])]) (fun k => la.length - k) 0 (Nat.zero_le _) (Sub.cons rfl (Sub.cons rfl (Sub.cons rfl (Sub.cons rfl (Sub.cons rfl (Sub.cons rfl (Sub.cons rfl (Sub.cons rfl (Sub.cons rfl (Sub.cons rfl (Sub.cons rfl Sub.nil))))))))))) (List.Perm.refl _) ?_
         intro k hk
         refine At.seq (tR (tM rfl rfl (tM rfl rfl (tV (Val.len (bt := #[]) Tryz.underlying29 rfl) rfl (tV (Val.bin rfl rfl rfl) rfl (tE ?_))))))
         refine At.cond rfl (fun h92 => ?_) (fun h92 => ?_)
         ·try simp only [hasB, isSizeB, sB] at h92
          refine At.skipC (At.thenN (At.seq (At.block (tR (tM rfl rfl (tM rfl rfl (tV (Val.indexRowP (i := 5) k (by omega) Tryz.underlying29 Tryz.sizeOf5 rfl rfl rfl (by omega) (by omega) (by omega)) rfl (tV (Val.loadRowB (c := UInt8.ofNat (k + 1)) (i := 5) Tryz.isAgg5 rfl rfl (hGb k (by omega))) rfl (tM rfl rfl (tV (Val.addI rfl rfl (by omega) (by omega)) rfl ?_))))))))))
          rw [show (k : Int) + 1 = ((k + 1 : Nat) : Int) from by omega]
          refine tV (Val.toB Tryz.underlying3 Tryz.underlying5 rfl (Int.natCast_nonneg _)) rfl ?_
          rw [Int.toNat_natCast]
          refine tV (Val.bin rfl rfl rfl) rfl ?_
          rw [bne_self_eq_false]
          refine tM rfl rfl (At.yes rfl rfl (tM rfl rfl (At.yes rfl rfl (tM rfl rfl (At.yes rfl rfl (tV (Val.indexRow (i := 5) k (by omega) Tryz.underlying29 Tryz.sizeOf5 rfl rfl rfl (by omega) (by omega)) rfl (At.yes rfl rfl (tV (Val.loadRowB (c := UInt8.ofNat (k + 1)) (i := 5) Tryz.isAgg5 rfl rfl (hGb k (by omega))) rfl (At.yes rfl rfl (tM rfl rfl (At.yes rfl rfl (tV (Val.addI rfl rfl (by omega) (by omega)) rfl ?_))))))))))))
          rw [show (k : Int) + 1 = ((k + 1 : Nat) : Int) from by omega]
          refine At.yes rfl rfl (tV (Val.toB Tryz.underlying3 Tryz.underlying5 rfl (Int.natCast_nonneg _)) rfl ?_)
          rw [Int.toNat_natCast]
          refine At.yes rfl rfl (tV (Val.bin rfl rfl rfl) rfl ?_)
          rw [bne_self_eq_false]
          refine tV (Val.pickF rfl rfl) rfl (tE (At.condF rfl (At.skipC (At.blkN (At.thenN (At.region (tM rfl rfl ?_)))))))
          first | refine tV (Val.addI rfl rfl (by omega) (by omega)) rfl ?_ | refine tV (Val.bin rfl rfl rfl) rfl ?_
          refine tA rfl rfl (tE ?_)
          exact At.again (k + 1) (show k + 1 ≤ _ by omega) (by omega) (Sub.cons rfl (Sub.cons rfl (Sub.cons rfl (Sub.cons rfl (Sub.cons rfl (Sub.cons rfl (Sub.cons rfl (Sub.cons rfl (Sub.cons rfl (Sub.cons rfl (Sub.cons (congrArg (fun z => some (Value.int IntKind.i64 z)) (by omega)) Sub.nil))))))))))) (List.Perm.refl _)
         ·try simp only [hasB, isSizeB, sB] at h92
          refine At.exitC (At.thenX (At.thenX (At.blkX (At.thenN (At.seq (At.seq (At.drop 1 ?_)))))))
          simp only [ec0, ecS]
          refine At.drop 2 ?_
          simp only [ec0, ecS]
          refine At.drop 2 ?_
          simp only [ec0, ecS]
          refine At.drop 2 ?_
          simp only [ec0, ecS]
          refine At.drop 2 ?_
          simp only [ec0, ecS]
          refine At.drop 2 ?_
          simp only [ec0, ecS]
          refine At.region (tA rfl rfl (tE (At.block ?_)))
          skip
          refine At.loop (σ := Nat) (fun k => k ≤ L.length) (fun k => [(8, .pointer (some ⟨b3, 0, none⟩)), (9, (.slice A5 ((L).length) c6)), (10, (.slice A8 ((M).length) c9)), (11, va), (13, vb), (26, v88), (29, v90), (2, x), (33, .int .i64 (k : Int))]) (fun k => [rowR v90 5 1 (((ovR la)).length) (((ovR la)).map bv), rowR v88 5 1 (((ovR lb)).length) (((ovR lb)).map bv), rowR vb 5 1 ((lb).length) ((lb).map bv), rowR va 5 1 ((la).length) ((la).map bv), rowR (.slice A8 ((M).length) c9) 45 2 ((M).length) (prC (M)), rowR (.slice A5 ((L).length) c6) 45 2 ((L).length) (prC (L)), blk b3 31 ([.int .i64 (supS p i c).1, .int .i64 (supS p i c).2.1, .int .i64 (supS p i c).2.2, .int .i64 (4 + (supS p i c).2.1 / 8)])]) (fun k => L.length - k) 0 (Nat.zero_le _) (Sub.cons rfl (Sub.cons rfl (Sub.cons rfl (Sub.cons rfl (Sub.cons rfl (Sub.cons rfl (Sub.cons rfl (Sub.cons rfl (Sub.cons rfl Sub.nil))))))))) (List.Perm.refl _) ?_
          intro k hk
          refine At.seq (tR (tM rfl rfl (tM rfl rfl (tV (Val.lenRow (i := 5) Tryz.underlying25 rfl rfl) rfl (tV (Val.bin rfl rfl rfl) rfl (tE ?_))))))
          refine At.cond rfl (fun h93 => ?_) (fun h93 => ?_)
          ·try simp only [hasB, isSizeB, sB] at h93
           obtain ⟨q, hq⟩ : ∃ q, L[k]? = some q := ⟨_, List.getElem?_eq_getElem (by omega)⟩
           have hqt := pl_all htA.pl q (List.mem_of_getElem? hq)
           unfold TW at hqt
           refine At.skipC (At.thenN (At.seq (At.block (At.seq (At.quiet rfl (by decide +kernel) (qM rfl rfl (qM rfl rfl (qM rfl rfl (qV (Val.indexRow (i := 5) (k * 2) (by omega) Tryz.underlying25 Tryz.sizeOf45 rfl rfl rfl (by omega) (by omega)) rfl (qV (Val.field ((k * 2 + 0)) rfl fo_45_0 rfl) rfl (qV (Val.loadRow (u := .int .i64 q.1) (i := 5) Tryz.isAgg3 rfl rfl (prC_at hq).1) rfl ?_)))))))))))
           refine QAt.callP (fun w hw => (by have h0 := wordJ_p _ (ovR la) q.1.toNat w (row_rd (hw.row (i := 0) rfl) (by decide)) (by omega) (by omega); rwa [show ((q.1.toNat : Nat) : Int) = q.1 from by omega, htA.word (List.mem_of_getElem? hq)] at h0)) Tryz.call19 rfl rfl (qM rfl rfl (qM rfl rfl (qV (Val.indexRow (i := 5) (k * 2) (by omega) Tryz.underlying25 Tryz.sizeOf45 rfl rfl rfl (by omega) (by omega)) rfl (qV (Val.field ((k * 2 + 1)) rfl fo_45_1 rfl) rfl (qV (Val.loadRow (u := b64 q.2) (i := 5) Tryz.isAgg43 rfl rfl (prC_at hq).2) rfl (qV (Val.bin rfl rfl rfl) rfl ?_))))))
           rw [bne_self_eq_false]
           refine QAt.fin (At.thenN (At.condF rfl (At.skipC (At.blkN (At.thenN (At.region (tM rfl rfl ?_)))))))
           first | refine tV (Val.addI rfl rfl (by omega) (by omega)) rfl ?_ | refine tV (Val.bin rfl rfl rfl) rfl ?_
           refine tA rfl rfl (tE ?_)
           exact At.again (k + 1) (show k + 1 ≤ _ by omega) (by omega) (Sub.cons rfl (Sub.cons rfl (Sub.cons rfl (Sub.cons rfl (Sub.cons rfl (Sub.cons rfl (Sub.cons rfl (Sub.cons rfl (Sub.cons (congrArg (fun z => some (Value.int IntKind.i64 z)) (by omega)) Sub.nil))))))))) (List.Perm.refl _)
          ·try simp only [hasB, isSizeB, sB] at h93
           refine At.exitC (At.thenX (At.thenX (At.blkX (At.thenN (At.seq (tR (tA rfl rfl (tE (At.block ?_)))))))))
           skip
           refine At.loop (σ := Nat) (fun k => k ≤ M.length) (fun k => [(8, .pointer (some ⟨b3, 0, none⟩)), (10, (.slice A8 ((M).length) c9)), (11, va), (13, vb), (26, v88), (29, v90), (2, x), (34, .int .i64 (k : Int))]) (fun k => [rowR v90 5 1 (((ovR la)).length) (((ovR la)).map bv), rowR v88 5 1 (((ovR lb)).length) (((ovR lb)).map bv), rowR vb 5 1 ((lb).length) ((lb).map bv), rowR va 5 1 ((la).length) ((la).map bv), rowR (.slice A8 ((M).length) c9) 45 2 ((M).length) (prC (M)), rowR (.slice A5 ((L).length) c6) 45 2 ((L).length) (prC (L)), blk b3 31 ([.int .i64 (supS p i c).1, .int .i64 (supS p i c).2.1, .int .i64 (supS p i c).2.2, .int .i64 (4 + (supS p i c).2.1 / 8)])]) (fun k => M.length - k) 0 (Nat.zero_le _) (Sub.cons rfl (Sub.cons rfl (Sub.cons rfl (Sub.cons rfl (Sub.cons rfl (Sub.cons rfl (Sub.cons rfl (Sub.cons rfl Sub.nil)))))))) (List.Perm.refl _) ?_
           intro k hk
           refine At.seq (tR (tM rfl rfl (tM rfl rfl (tV (Val.lenRow (i := 4) Tryz.underlying25 rfl rfl) rfl (tV (Val.bin rfl rfl rfl) rfl (tE ?_))))))
           refine At.cond rfl (fun h94 => ?_) (fun h94 => ?_)
           ·try simp only [hasB, isSizeB, sB] at h94
            obtain ⟨q, hq⟩ : ∃ q, M[k]? = some q := ⟨_, List.getElem?_eq_getElem (by omega)⟩
            have hqt := pl_all htB.pl q (List.mem_of_getElem? hq)
            unfold TW at hqt
            refine At.skipC (At.thenN (At.seq (At.block (At.seq (At.quiet rfl (by decide +kernel) (qM rfl rfl (qM rfl rfl (qM rfl rfl (qV (Val.indexRow (i := 4) (k * 2) (by omega) Tryz.underlying25 Tryz.sizeOf45 rfl rfl rfl (by omega) (by omega)) rfl (qV (Val.field ((k * 2 + 0)) rfl fo_45_0 rfl) rfl (qV (Val.loadRow (u := .int .i64 q.1) (i := 4) Tryz.isAgg3 rfl rfl (prC_at hq).1) rfl ?_)))))))))))
            refine QAt.callP (fun w hw => (by have h0 := wordJ_p _ (ovR lb) q.1.toNat w (row_rd (hw.row (i := 1) rfl) (by decide)) (by omega) (by omega); rwa [show ((q.1.toNat : Nat) : Int) = q.1 from by omega, htB.word (List.mem_of_getElem? hq)] at h0)) Tryz.call19 rfl rfl (qM rfl rfl (qM rfl rfl (qV (Val.indexRow (i := 4) (k * 2) (by omega) Tryz.underlying25 Tryz.sizeOf45 rfl rfl rfl (by omega) (by omega)) rfl (qV (Val.field ((k * 2 + 1)) rfl fo_45_1 rfl) rfl (qV (Val.loadRow (u := b64 q.2) (i := 4) Tryz.isAgg43 rfl rfl (prC_at hq).2) rfl (qV (Val.bin rfl rfl rfl) rfl ?_))))))
            rw [bne_self_eq_false]
            refine QAt.fin (At.thenN (At.condF rfl (At.skipC (At.blkN (At.thenN (At.region (tM rfl rfl ?_)))))))
            first | refine tV (Val.addI rfl rfl (by omega) (by omega)) rfl ?_ | refine tV (Val.bin rfl rfl rfl) rfl ?_
            refine tA rfl rfl (tE ?_)
            exact At.again (k + 1) (show k + 1 ≤ _ by omega) (by omega) (Sub.cons rfl (Sub.cons rfl (Sub.cons rfl (Sub.cons rfl (Sub.cons rfl (Sub.cons rfl (Sub.cons rfl (Sub.cons (congrArg (fun z => some (Value.int IntKind.i64 z)) (by omega)) Sub.nil)))))))) (List.Perm.refl _)
           ·try simp only [hasB, isSizeB, sB] at h94
            refine At.exitC (At.thenX (At.thenX (At.blkX (At.thenN (At.seq ?_)))))
            apply At.any (t := 21)
            · rfl
            refine KAt.pin (fun w hw => hw) (KAt.take 0 (Val.move rfl) rfl rfl rfl rfl (fun w hw => hw) (by decide +kernel) (KAt.take 1 (Val.lenRow (i := 0) Tryz.underlying29 rfl rfl) rfl rfl rfl rfl (fun w hw => hw) (by decide +kernel) (KAt.take 2 (Val.move rfl) rfl rfl rfl rfl (fun w hw => hw) (by decide +kernel) (KAt.take 3 (Val.lenRow (i := 3) Tryz.underlying29 rfl rfl) rfl rfl rfl rfl (fun w hw => hw) (by decide +kernel) (KAt.take 4 (Val.bin rfl rfl rfl) rfl rfl rfl rfl (fun w hw => hw) (by decide +kernel) ?_)))))
            rw [show (((ovR la).length : Nat) : Int) = (la.length : Nat) from by rw [hoa], beq_self_eq_true]
            refine KAt.take 5 (Val.move rfl) rfl rfl rfl rfl (fun w hw => hw) (by decide +kernel) (KAt.takeY 6 (Val.move rfl) rfl rfl rfl rfl (fun w hw => hw) (by decide +kernel) (KAt.takeY 7 (Val.lenRow (i := 1) Tryz.underlying29 rfl rfl) rfl rfl rfl rfl (fun w hw => hw) (by decide +kernel) (KAt.takeY 8 (Val.move rfl) rfl rfl rfl rfl (fun w hw => hw) (by decide +kernel) (KAt.takeY 9 (Val.lenRow (i := 2) Tryz.underlying29 rfl rfl) rfl rfl rfl rfl (fun w hw => hw) (by decide +kernel) (KAt.takeY 10 (Val.bin rfl rfl rfl) rfl rfl rfl rfl (fun w hw => hw) (by decide +kernel) ?_)))))
            rw [show (((ovR lb).length : Nat) : Int) = (lb.length : Nat) from by rw [hob], beq_self_eq_true]
            refine KAt.take 11 (Val.pickT rfl rfl) rfl rfl rfl rfl (fun w hw => hw) (by decide +kernel) (KAt.take 12 (Val.move rfl) rfl rfl rfl rfl (fun w hw => hw) (by decide +kernel) (KAt.takeY 13 (Val.move rfl) rfl rfl rfl rfl (fun w hw => hw) (by decide +kernel) (KAt.takeY 14 (Val.loadAll (i := 6) Tryz.isAgg31 Tryz.sizeOf31 rfl rfl rfl) rfl rfl rfl rfl (fun w hw => hw) (by decide +kernel) (KAt.takeY 15 (Val.move rfl) rfl rfl rfl rfl (fun w hw => hw) (by decide +kernel) (KAt.takeY 16 (Val.loadAll (i := 6) Tryz.isAgg31 Tryz.sizeOf31 rfl rfl rfl) rfl rfl rfl rfl (fun w hw => hw) (by decide +kernel) (KAt.only 17 rfl (by decide +kernel) (At.yes rfl rfl (At.callN (fun w hw => changesJ_n x T2 (supS p i c).1 (supS p i c).2.1 (supS p i c).2.2 (4 + (supS p i c).2.1 / 8) w (hx.mod hw.mod) hT2 hsi) Tryz.call21 rfl rfl (fun v95 => ?_)))))))))
            rw [← hM]
            refine At.nil (KAt.go (fun w hw => hw.drop (List.Sublist.cons _ (List.Sublist.cons_cons _ (List.Sublist.cons_cons _ (List.Sublist.cons_cons _ (List.Sublist.cons_cons _ (List.Sublist.cons_cons _ (List.Sublist.cons_cons _ (List.Sublist.cons_cons _ (List.Sublist.refl _)))))))))) (KAt.only 18 rfl (by decide +kernel) (At.yes rfl rfl (At.callP (fun w hw => lentIn_p _ _ la L M (supS p i c) w (ht.mod hw.mod) (row_rd (hw.row (i := 4) rfl) (by decide)) (row_rd (hw.row (i := 0) rfl) (by decide)) htA hL1 hM1 hM8 hMp) Tryz.call20 rfl rfl (At.nil (KAt.go (fun w hw => hw.drop (List.Sublist.cons _ (List.Sublist.cons_cons _ (List.Sublist.cons_cons _ (List.Sublist.cons_cons _ (List.Sublist.cons_cons _ (List.Sublist.cons_cons _ (List.Sublist.cons_cons _ (List.Sublist.cons_cons _ (List.Sublist.refl _)))))))))) (KAt.take 19 (Val.pickT rfl rfl) rfl rfl rfl rfl (fun w hw => hw.drop (List.Sublist.cons _ (List.Sublist.cons_cons _ (List.Sublist.cons_cons _ (List.Sublist.cons_cons _ (List.Sublist.cons_cons _ (List.Sublist.cons_cons _ (List.Sublist.cons_cons _ (List.Sublist.cons_cons _ (List.Sublist.refl _)))))))))) (by decide +kernel) (KAt.take 20 (Val.assign rfl) rfl rfl rfl rfl (fun w hw => hw.drop (List.Sublist.cons _ (List.Sublist.cons_cons _ (List.Sublist.cons_cons _ (List.Sublist.cons_cons _ (List.Sublist.cons_cons _ (List.Sublist.cons_cons _ (List.Sublist.cons_cons _ (List.Sublist.cons_cons _ (List.Sublist.refl _)))))))))) (by decide +kernel) (KAt.done (by decide +kernel) (At.thenN (At.retC (At.ret1 (.inl rfl) rfl rfl rfl (fun w hw => ?_)))))))))))))
            exact ⟨rfl, hw.mod⟩
       ·refine At.drop 1 ?_
        simp only [ec0, ecS]
        refine tA rfl rfl (tE (tR (tM rfl rfl (At.callNT (g := (fun v => .tuple #[v, .int .i64 (pndE lb)])) (fun w hw => pending_n _ lb w (ht.mod hw.mod) (row_rd (hw.row (i := 5) rfl) (by decide)) (by omega)) Tryz.call15 rfl rfl (fun v96 => ?_)))))
        rw [htB.pnd.1, htB.pnd.2]
        refine tM rfl rfl (tV (Val.extract rfl rfl) rfl (tV (Val.extract rfl rfl) rfl (tA rfl rfl (tA rfl rfl (tE (tR (tM rfl rfl (At.callNT (g := (fun v => .tuple #[v, .int .i64 (pndE lb)])) (fun w hw => overlay_n _ lb w (ht.mod hw.mod) (row_rd (hw.row (i := 6) rfl) (by decide)) (by omega)) Tryz.call16 rfl rfl (fun v97 => ?_)))))))))
        rw [htB.pnd.1]
        refine tM rfl rfl (tV (Val.extract rfl rfl) rfl (tV (Val.extract rfl rfl) rfl (tA rfl rfl (tA rfl rfl (tE (tR (tM rfl rfl (At.callNT (g := (fun v => .tuple #[v, .int .i64 (pndE la)])) (fun w hw => pending_n _ la w (ht.mod hw.mod) (row_rd (hw.row (i := 8) rfl) (by decide)) (by omega)) Tryz.call15 rfl rfl (fun v98 => ?_)))))))))
        rw [htA.pnd.1, htA.pnd.2]
        refine tM rfl rfl (tV (Val.extract rfl rfl) rfl (tV (Val.extract rfl rfl) rfl (tA rfl rfl (tA rfl rfl (tE (tR (tM rfl rfl (At.callNT (g := (fun v => .tuple #[v, .int .i64 (pndE la)])) (fun w hw => overlay_n _ la w (ht.mod hw.mod) (row_rd (hw.row (i := 9) rfl) (by decide)) (by omega)) Tryz.call16 rfl rfl (fun v99 => ?_)))))))))
        rw [htA.pnd.1]
        refine tM rfl rfl (tV (Val.extract rfl rfl) rfl (tV (Val.extract rfl rfl) rfl (tA rfl rfl (tA rfl rfl (tE (At.seq (tR (tM rfl rfl (tV (Val.bin rfl rfl rfl) rfl (tM rfl rfl (At.yes rfl rfl (tM rfl rfl (At.yes rfl rfl (tV (Val.bin rfl rfl rfl) rfl (tV (Val.pickF rfl rfl) rfl (tM rfl rfl (At.yes rfl rfl (tM rfl rfl (At.yes rfl rfl (tV (Val.bin rfl rfl rfl) rfl (tV (Val.pickF rfl rfl) rfl (tM rfl rfl (At.yes rfl rfl (tM rfl rfl (At.yes rfl rfl (tV (Val.bin rfl rfl rfl) rfl (tV (Val.pickF rfl rfl) rfl (tM rfl rfl (At.yes rfl rfl (tM rfl rfl (At.yes rfl rfl (tM rfl rfl (At.yes rfl rfl (At.callP (fun w hw => sameUnJ_p _ _ M w (row_rd (hw.row (i := 3) rfl) (by decide)) (row_rd (hw.row (i := 11) rfl) (by decide)) (by omega)) Tryz.call17 rfl rfl (At.yes rfl rfl (tV (Val.not rfl) rfl (tV (Val.pickF rfl rfl) rfl (tM rfl rfl (At.yes rfl rfl ?_)))))))))))))))))))))))))))))))))))))))
        refine tM rfl rfl (At.yes rfl rfl (tM rfl rfl (At.yes rfl rfl (At.callP (fun w hw => sameUnJ_p _ _ L w (row_rd (hw.row (i := 1) rfl) (by decide)) (row_rd (hw.row (i := 12) rfl) (by decide)) (by omega)) Tryz.call17 rfl rfl (At.yes rfl rfl (tV (Val.not rfl) rfl (tV (Val.pickF rfl rfl) rfl (tM rfl rfl (At.yes rfl rfl (tM rfl rfl (At.yes rfl rfl (tM rfl rfl (At.yes rfl rfl ?_)))))))))))))
        refine At.callP (fun w hw => (by have h0 := sameBytes_p _ _ la la w (row_rd (hw.row (i := 10) rfl) (by decide)) (row_rd (hw.row (i := 8) rfl) (by decide)) (by omega) (by omega); rwa [decide_eq_true rfl] at h0)) Tryz.call18 rfl rfl (At.yes rfl rfl (tV (Val.not rfl) rfl (tV (Val.pickF rfl rfl) rfl (tE (At.condF rfl (At.skipC (At.thenN (At.seq (tR (tA rfl rfl (tE (At.block ?_))))))))))))
        skip
        refine At.loop (σ := Nat) (fun k => k ≤ L.length) (fun k => [(8, .pointer (some ⟨b3, 0, none⟩)), (9, (.slice A5 ((L).length) c6)), (10, (.slice A8 ((M).length) c9)), (11, va), (13, vb), (17, (.slice A49 ((D).length) c50)), (19, (.slice A81 ((G).length) c82)), (22, v52), (24, v84), (26, v97), (29, v99), (2, x), (31, .int .i64 (k : Int))]) (fun k => [rowR v99 5 1 (((ovR la)).length) (((ovR la)).map bv), rowR v98 45 2 ((L).length) (prC (L)), rowR v97 5 1 (((ovR lb)).length) (((ovR lb)).map bv), rowR v96 45 2 ((M).length) (prC (M)), rowR v84 5 1 (((G ++ [(9 : UInt8), 8, 7])).length) (((G ++ [(9 : UInt8), 8, 7])).map bv), rowR v52 45 2 (((D ++ [((77 : Int), (0 : BitVec 64)), (78, 0)])).length) (prC ((D ++ [((77 : Int), (0 : BitVec 64)), (78, 0)]))), rowR (.slice A81 ((G).length) c82) 5 1 ((G).length) ((G).map bv), rowR (.slice A49 ((D).length) c50) 45 2 ((D).length) (prC (D)), rowR vk 5 1 ((la).length) ((la).map bv), rowR vb 5 1 ((lb).length) ((lb).map bv), rowR va 5 1 ((la).length) ((la).map bv), rowR (.slice A8 ((M).length) c9) 45 2 ((M).length) (prC (M)), rowR (.slice A5 ((L).length) c6) 45 2 ((L).length) (prC (L)), blk b3 31 ([.int .i64 (supS p i c).1, .int .i64 (supS p i c).2.1, .int .i64 (supS p i c).2.2, .int .i64 (4 + (supS p i c).2.1 / 8)])]) (fun k => L.length - k) 0 (Nat.zero_le _) (Sub.cons rfl (Sub.cons rfl (Sub.cons rfl (Sub.cons rfl (Sub.cons rfl (Sub.cons rfl (Sub.cons rfl (Sub.cons rfl (Sub.cons rfl (Sub.cons rfl (Sub.cons rfl (Sub.cons rfl (Sub.cons rfl Sub.nil))))))))))))) (List.Perm.refl _) ?_
        intro k hk
        refine At.seq (tR (tM rfl rfl (tM rfl rfl (tV (Val.lenRow (i := 7) Tryz.underlying25 rfl rfl) rfl (tV (Val.bin rfl rfl rfl) rfl (tE ?_))))))
        refine At.cond rfl (fun h100 => ?_) (fun h100 => ?_)
        ·try simp only [hasB, isSizeB, sB] at h100
         refine At.skipC (At.thenN (At.seq (At.block (tR (tM rfl rfl (tM rfl rfl (tV (Val.indexRow (i := 7) (k * 2) (by omega) Tryz.underlying25 Tryz.sizeOf45 rfl rfl rfl (by omega) (by omega)) rfl (tV (Val.field ((k * 2 + 0)) rfl fo_45_0 rfl) rfl (tV (Val.loadRow (u := .int .i64 (0 - (k : Int) - 1)) (i := 7) Tryz.isAgg3 rfl rfl (prC_at (hDa k (by omega))).1) rfl (tM rfl rfl (tV (Val.neg rfl) rfl ?_)))))))))))
         rw [wrap_i64 (by omega) (by omega)]
         first | refine tV (Val.subI rfl rfl (by omega) (by omega)) rfl ?_ | refine tV (Val.bin rfl rfl rfl) rfl ?_
         refine tV (Val.bin rfl rfl rfl) rfl ?_
         rw [bne_self_eq_false]
         refine tM rfl rfl (At.yes rfl rfl (tM rfl rfl (At.yes rfl rfl (tM rfl rfl (At.yes rfl rfl (tV (Val.indexRow (i := 5) (k * 2) (by omega) Tryz.underlying25 Tryz.sizeOf45 rfl rfl rfl (by omega) (by omega)) rfl (At.yes rfl rfl (tV (Val.field ((k * 2 + 0)) rfl fo_45_0 rfl) rfl (At.yes rfl rfl (tV (Val.loadRow (u := .int .i64 (0 - (k : Int) - 1)) (i := 5) Tryz.isAgg3 rfl rfl (prC_at (hDb k (by omega))).1) rfl (At.yes rfl rfl (tM rfl rfl (At.yes rfl rfl (tV (Val.neg rfl) rfl ?_))))))))))))))
         rw [wrap_i64 (by omega) (by omega)]
         refine At.yes rfl rfl ?_
         first | refine tV (Val.subI rfl rfl (by omega) (by omega)) rfl ?_ | refine tV (Val.bin rfl rfl rfl) rfl ?_
         refine At.yes rfl rfl (tV (Val.bin rfl rfl rfl) rfl ?_)
         rw [bne_self_eq_false]
         refine tV (Val.pickF rfl rfl) rfl (tM rfl rfl (At.yes rfl rfl (tM rfl rfl (At.yes rfl rfl (tM rfl rfl (At.yes rfl rfl (tV (Val.indexRow (i := 7) (k * 2) (by omega) Tryz.underlying25 Tryz.sizeOf45 rfl rfl rfl (by omega) (by omega)) rfl (At.yes rfl rfl (tV (Val.field ((k * 2 + 1)) rfl fo_45_1 rfl) rfl (At.yes rfl rfl (tV (Val.loadRow (u := b64 (BitVec.ofNat 64 k)) (i := 7) Tryz.isAgg43 rfl rfl (prC_at (hDa k (by omega))).2) rfl (At.yes rfl rfl (tM rfl rfl (At.yes rfl rfl (tV (Val.conv Tryz.underlying3 Tryz.underlying43 rfl) rfl ?_)))))))))))))))
         rw [wrap_u64_nat]
         refine At.yes rfl rfl (tV (Val.bin rfl rfl rfl) rfl ?_)
         rw [bne_self_eq_false]
         refine tV (Val.pickF rfl rfl) rfl (tE (At.condF rfl (At.skipC (At.blkN (At.thenN (At.region (tM rfl rfl ?_)))))))
         first | refine tV (Val.addI rfl rfl (by omega) (by omega)) rfl ?_ | refine tV (Val.bin rfl rfl rfl) rfl ?_
         refine tA rfl rfl (tE ?_)
         exact At.again (k + 1) (show k + 1 ≤ _ by omega) (by omega) (Sub.cons rfl (Sub.cons rfl (Sub.cons rfl (Sub.cons rfl (Sub.cons rfl (Sub.cons rfl (Sub.cons rfl (Sub.cons rfl (Sub.cons rfl (Sub.cons rfl (Sub.cons rfl (Sub.cons rfl (Sub.cons (congrArg (fun z => some (Value.int IntKind.i64 z)) (by omega)) Sub.nil))))))))))))) (List.Perm.refl _)
        ·try simp only [hasB, isSizeB, sB] at h100
         refine At.exitC (At.thenX (At.thenX (At.blkX (At.thenN (At.seq (tR (tA rfl rfl (tE (At.block ?_)))))))))
         skip
         refine At.loop (σ := Nat) (fun k => k ≤ la.length) (fun k => [(8, .pointer (some ⟨b3, 0, none⟩)), (9, (.slice A5 ((L).length) c6)), (10, (.slice A8 ((M).length) c9)), (11, va), (13, vb), (19, (.slice A81 ((G).length) c82)), (24, v84), (26, v97), (29, v99), (2, x), (32, .int .i64 (k : Int))]) (fun k => [rowR v99 5 1 (((ovR la)).length) (((ovR la)).map bv), rowR v98 45 2 ((L).length) (prC (L)), rowR v97 5 1 (((ovR lb)).length) (((ovR lb)).map bv), rowR v96 45 2 ((M).length) (prC (M)), rowR v84 5 1 (((G ++ [(9 : UInt8), 8, 7])).length) (((G ++ [(9 : UInt8), 8, 7])).map bv), rowR v52 45 2 (((D ++ [((77 : Int), (0 : BitVec 64)), (78, 0)])).length) (prC ((D ++ [((77 : Int), (0 : BitVec 64)), (78, 0)]))), rowR (.slice A81 ((G).length) c82) 5 1 ((G).length) ((G).map bv), rowR (.slice A49 ((D).length) c50) 45 2 ((D).length) (prC (D)), rowR vk 5 1 ((la).length) ((la).map bv), rowR vb 5 1 ((lb).length) ((lb).map bv), rowR va 5 1 ((la).length) ((la).map bv), rowR (.slice A8 ((M).length) c9) 45 2 ((M).length) (prC (M)), rowR (.slice A5 ((L).length) c6) 45 2 ((L).length) (prC (L)), blk b3 31 ([.int .i64 (supS p i c).1, .int .i64 (supS p i c).2.1, .int .i64 (supS p i c).2.2, .int .i64 (4 + (supS p i c).2.1 / 8)])]) (fun k => la.length - k) 0 (Nat.zero_le _) (Sub.cons rfl (Sub.cons rfl (Sub.cons rfl (Sub.cons rfl (Sub.cons rfl (Sub.cons rfl (Sub.cons rfl (Sub.cons rfl (Sub.cons rfl (Sub.cons rfl (Sub.cons rfl Sub.nil))))))))))) (List.Perm.refl _) ?_
         intro k hk
         refine At.seq (tR (tM rfl rfl (tM rfl rfl (tV (Val.lenRow (i := 6) Tryz.underlying29 rfl rfl) rfl (tV (Val.bin rfl rfl rfl) rfl (tE ?_))))))
         refine At.cond rfl (fun h101 => ?_) (fun h101 => ?_)
         ·try simp only [hasB, isSizeB, sB] at h101
          refine At.skipC (At.thenN (At.seq (At.block (tR (tM rfl rfl (tM rfl rfl (tV (Val.indexRow (i := 6) k (by omega) Tryz.underlying29 Tryz.sizeOf5 rfl rfl rfl (by omega) (by omega)) rfl (tV (Val.loadRowB (c := UInt8.ofNat (k + 1)) (i := 6) Tryz.isAgg5 rfl rfl (hGa k (by omega))) rfl (tM rfl rfl (tV (Val.addI rfl rfl (by omega) (by omega)) rfl ?_))))))))))
          rw [show (k : Int) + 1 = ((k + 1 : Nat) : Int) from by omega]
          refine tV (Val.toB Tryz.underlying3 Tryz.underlying5 rfl (Int.natCast_nonneg _)) rfl ?_
          rw [Int.toNat_natCast]
          refine tV (Val.bin rfl rfl rfl) rfl ?_
          rw [bne_self_eq_false]
          refine tM rfl rfl (At.yes rfl rfl (tM rfl rfl (At.yes rfl rfl (tM rfl rfl (At.yes rfl rfl (tV (Val.indexRow (i := 4) k (by omega) Tryz.underlying29 Tryz.sizeOf5 rfl rfl rfl (by omega) (by omega)) rfl (At.yes rfl rfl (tV (Val.loadRowB (c := UInt8.ofNat (k + 1)) (i := 4) Tryz.isAgg5 rfl rfl (hGb k (by omega))) rfl (At.yes rfl rfl (tM rfl rfl (At.yes rfl rfl (tV (Val.addI rfl rfl (by omega) (by omega)) rfl ?_))))))))))))
          rw [show (k : Int) + 1 = ((k + 1 : Nat) : Int) from by omega]
          refine At.yes rfl rfl (tV (Val.toB Tryz.underlying3 Tryz.underlying5 rfl (Int.natCast_nonneg _)) rfl ?_)
          rw [Int.toNat_natCast]
          refine At.yes rfl rfl (tV (Val.bin rfl rfl rfl) rfl ?_)
          rw [bne_self_eq_false]
          refine tV (Val.pickF rfl rfl) rfl (tE (At.condF rfl (At.skipC (At.blkN (At.thenN (At.region (tM rfl rfl ?_)))))))
          first | refine tV (Val.addI rfl rfl (by omega) (by omega)) rfl ?_ | refine tV (Val.bin rfl rfl rfl) rfl ?_
          refine tA rfl rfl (tE ?_)
          exact At.again (k + 1) (show k + 1 ≤ _ by omega) (by omega) (Sub.cons rfl (Sub.cons rfl (Sub.cons rfl (Sub.cons rfl (Sub.cons rfl (Sub.cons rfl (Sub.cons rfl (Sub.cons rfl (Sub.cons rfl (Sub.cons rfl (Sub.cons (congrArg (fun z => some (Value.int IntKind.i64 z)) (by omega)) Sub.nil))))))))))) (List.Perm.refl _)
         ·try simp only [hasB, isSizeB, sB] at h101
          refine At.exitC (At.thenX (At.thenX (At.blkX (At.thenN (At.seq (At.seq (At.drop 1 ?_)))))))
          simp only [ec0, ecS]
          refine At.drop 2 ?_
          simp only [ec0, ecS]
          refine At.drop 2 ?_
          simp only [ec0, ecS]
          refine At.drop 2 ?_
          simp only [ec0, ecS]
          refine At.drop 2 ?_
          simp only [ec0, ecS]
          refine At.drop 2 ?_
          simp only [ec0, ecS]
          refine At.drop 2 ?_
          simp only [ec0, ecS]
          refine At.region (tA rfl rfl (tE (At.block ?_)))
          skip
          refine At.loop (σ := Nat) (fun k => k ≤ L.length) (fun k => [(8, .pointer (some ⟨b3, 0, none⟩)), (9, (.slice A5 ((L).length) c6)), (10, (.slice A8 ((M).length) c9)), (11, va), (13, vb), (26, v97), (29, v99), (2, x), (33, .int .i64 (k : Int))]) (fun k => [rowR v99 5 1 (((ovR la)).length) (((ovR la)).map bv), rowR v97 5 1 (((ovR lb)).length) (((ovR lb)).map bv), rowR vb 5 1 ((lb).length) ((lb).map bv), rowR va 5 1 ((la).length) ((la).map bv), rowR (.slice A8 ((M).length) c9) 45 2 ((M).length) (prC (M)), rowR (.slice A5 ((L).length) c6) 45 2 ((L).length) (prC (L)), blk b3 31 ([.int .i64 (supS p i c).1, .int .i64 (supS p i c).2.1, .int .i64 (supS p i c).2.2, .int .i64 (4 + (supS p i c).2.1 / 8)])]) (fun k => L.length - k) 0 (Nat.zero_le _) (Sub.cons rfl (Sub.cons rfl (Sub.cons rfl (Sub.cons rfl (Sub.cons rfl (Sub.cons rfl (Sub.cons rfl (Sub.cons rfl (Sub.cons rfl Sub.nil))))))))) (List.Perm.refl _) ?_
          intro k hk
          refine At.seq (tR (tM rfl rfl (tM rfl rfl (tV (Val.lenRow (i := 5) Tryz.underlying25 rfl rfl) rfl (tV (Val.bin rfl rfl rfl) rfl (tE ?_))))))
          refine At.cond rfl (fun h102 => ?_) (fun h102 => ?_)
          ·try simp only [hasB, isSizeB, sB] at h102
           obtain ⟨q, hq⟩ : ∃ q, L[k]? = some q := ⟨_, List.getElem?_eq_getElem (by omega)⟩
           have hqt := pl_all htA.pl q (List.mem_of_getElem? hq)
           unfold TW at hqt
           refine At.skipC (At.thenN (At.seq (At.block (At.seq (At.quiet rfl (by decide +kernel) (qM rfl rfl (qM rfl rfl (qM rfl rfl (qV (Val.indexRow (i := 5) (k * 2) (by omega) Tryz.underlying25 Tryz.sizeOf45 rfl rfl rfl (by omega) (by omega)) rfl (qV (Val.field ((k * 2 + 0)) rfl fo_45_0 rfl) rfl (qV (Val.loadRow (u := .int .i64 q.1) (i := 5) Tryz.isAgg3 rfl rfl (prC_at hq).1) rfl ?_)))))))))))
           refine QAt.callP (fun w hw => (by have h0 := wordJ_p _ (ovR la) q.1.toNat w (row_rd (hw.row (i := 0) rfl) (by decide)) (by omega) (by omega); rwa [show ((q.1.toNat : Nat) : Int) = q.1 from by omega, htA.word (List.mem_of_getElem? hq)] at h0)) Tryz.call19 rfl rfl (qM rfl rfl (qM rfl rfl (qV (Val.indexRow (i := 5) (k * 2) (by omega) Tryz.underlying25 Tryz.sizeOf45 rfl rfl rfl (by omega) (by omega)) rfl (qV (Val.field ((k * 2 + 1)) rfl fo_45_1 rfl) rfl (qV (Val.loadRow (u := b64 q.2) (i := 5) Tryz.isAgg43 rfl rfl (prC_at hq).2) rfl (qV (Val.bin rfl rfl rfl) rfl ?_))))))
           rw [bne_self_eq_false]
           refine QAt.fin (At.thenN (At.condF rfl (At.skipC (At.blkN (At.thenN (At.region (tM rfl rfl ?_)))))))
           first | refine tV (Val.addI rfl rfl (by omega) (by omega)) rfl ?_ | refine tV (Val.bin rfl rfl rfl) rfl ?_
           refine tA rfl rfl (tE ?_)
           exact At.again (k + 1) (show k + 1 ≤ _ by omega) (by omega) (Sub.cons rfl (Sub.cons rfl (Sub.cons rfl (Sub.cons rfl (Sub.cons rfl (Sub.cons rfl (Sub.cons rfl (Sub.cons rfl (Sub.cons (congrArg (fun z => some (Value.int IntKind.i64 z)) (by omega)) Sub.nil))))))))) (List.Perm.refl _)
          ·try simp only [hasB, isSizeB, sB] at h102
           refine At.exitC (At.thenX (At.thenX (At.blkX (At.thenN (At.seq (tR (tA rfl rfl (tE (At.block ?_)))))))))
           skip
           refine At.loop (σ := Nat) (fun k => k ≤ M.length) (fun k => [(8, .pointer (some ⟨b3, 0, none⟩)), (10, (.slice A8 ((M).length) c9)), (11, va), (13, vb), (26, v97), (29, v99), (2, x), (34, .int .i64 (k : Int))]) (fun k => [rowR v99 5 1 (((ovR la)).length) (((ovR la)).map bv), rowR v97 5 1 (((ovR lb)).length) (((ovR lb)).map bv), rowR vb 5 1 ((lb).length) ((lb).map bv), rowR va 5 1 ((la).length) ((la).map bv), rowR (.slice A8 ((M).length) c9) 45 2 ((M).length) (prC (M)), rowR (.slice A5 ((L).length) c6) 45 2 ((L).length) (prC (L)), blk b3 31 ([.int .i64 (supS p i c).1, .int .i64 (supS p i c).2.1, .int .i64 (supS p i c).2.2, .int .i64 (4 + (supS p i c).2.1 / 8)])]) (fun k => M.length - k) 0 (Nat.zero_le _) (Sub.cons rfl (Sub.cons rfl (Sub.cons rfl (Sub.cons rfl (Sub.cons rfl (Sub.cons rfl (Sub.cons rfl (Sub.cons rfl Sub.nil)))))))) (List.Perm.refl _) ?_
           intro k hk
           refine At.seq (tR (tM rfl rfl (tM rfl rfl (tV (Val.lenRow (i := 4) Tryz.underlying25 rfl rfl) rfl (tV (Val.bin rfl rfl rfl) rfl (tE ?_))))))
           refine At.cond rfl (fun h103 => ?_) (fun h103 => ?_)
           ·try simp only [hasB, isSizeB, sB] at h103
            obtain ⟨q, hq⟩ : ∃ q, M[k]? = some q := ⟨_, List.getElem?_eq_getElem (by omega)⟩
            have hqt := pl_all htB.pl q (List.mem_of_getElem? hq)
            unfold TW at hqt
            refine At.skipC (At.thenN (At.seq (At.block (At.seq (At.quiet rfl (by decide +kernel) (qM rfl rfl (qM rfl rfl (qM rfl rfl (qV (Val.indexRow (i := 4) (k * 2) (by omega) Tryz.underlying25 Tryz.sizeOf45 rfl rfl rfl (by omega) (by omega)) rfl (qV (Val.field ((k * 2 + 0)) rfl fo_45_0 rfl) rfl (qV (Val.loadRow (u := .int .i64 q.1) (i := 4) Tryz.isAgg3 rfl rfl (prC_at hq).1) rfl ?_)))))))))))
            refine QAt.callP (fun w hw => (by have h0 := wordJ_p _ (ovR lb) q.1.toNat w (row_rd (hw.row (i := 1) rfl) (by decide)) (by omega) (by omega); rwa [show ((q.1.toNat : Nat) : Int) = q.1 from by omega, htB.word (List.mem_of_getElem? hq)] at h0)) Tryz.call19 rfl rfl (qM rfl rfl (qM rfl rfl (qV (Val.indexRow (i := 4) (k * 2) (by omega) Tryz.underlying25 Tryz.sizeOf45 rfl rfl rfl (by omega) (by omega)) rfl (qV (Val.field ((k * 2 + 1)) rfl fo_45_1 rfl) rfl (qV (Val.loadRow (u := b64 q.2) (i := 4) Tryz.isAgg43 rfl rfl (prC_at hq).2) rfl (qV (Val.bin rfl rfl rfl) rfl ?_))))))
            rw [bne_self_eq_false]
            refine QAt.fin (At.thenN (At.condF rfl (At.skipC (At.blkN (At.thenN (At.region (tM rfl rfl ?_)))))))
            first | refine tV (Val.addI rfl rfl (by omega) (by omega)) rfl ?_ | refine tV (Val.bin rfl rfl rfl) rfl ?_
            refine tA rfl rfl (tE ?_)
            exact At.again (k + 1) (show k + 1 ≤ _ by omega) (by omega) (Sub.cons rfl (Sub.cons rfl (Sub.cons rfl (Sub.cons rfl (Sub.cons rfl (Sub.cons rfl (Sub.cons rfl (Sub.cons (congrArg (fun z => some (Value.int IntKind.i64 z)) (by omega)) Sub.nil)))))))) (List.Perm.refl _)
           ·try simp only [hasB, isSizeB, sB] at h103
            refine At.exitC (At.thenX (At.thenX (At.blkX (At.thenN (At.seq ?_)))))
            apply At.any (t := 21)
            · rfl
            refine KAt.pin (fun w hw => hw) (KAt.take 0 (Val.move rfl) rfl rfl rfl rfl (fun w hw => hw) (by decide +kernel) (KAt.take 1 (Val.lenRow (i := 0) Tryz.underlying29 rfl rfl) rfl rfl rfl rfl (fun w hw => hw) (by decide +kernel) (KAt.take 2 (Val.move rfl) rfl rfl rfl rfl (fun w hw => hw) (by decide +kernel) (KAt.take 3 (Val.lenRow (i := 3) Tryz.underlying29 rfl rfl) rfl rfl rfl rfl (fun w hw => hw) (by decide +kernel) (KAt.take 4 (Val.bin rfl rfl rfl) rfl rfl rfl rfl (fun w hw => hw) (by decide +kernel) ?_)))))
            rw [show (((ovR la).length : Nat) : Int) = (la.length : Nat) from by rw [hoa], beq_self_eq_true]
            refine KAt.take 5 (Val.move rfl) rfl rfl rfl rfl (fun w hw => hw) (by decide +kernel) (KAt.takeY 6 (Val.move rfl) rfl rfl rfl rfl (fun w hw => hw) (by decide +kernel) (KAt.takeY 7 (Val.lenRow (i := 1) Tryz.underlying29 rfl rfl) rfl rfl rfl rfl (fun w hw => hw) (by decide +kernel) (KAt.takeY 8 (Val.move rfl) rfl rfl rfl rfl (fun w hw => hw) (by decide +kernel) (KAt.takeY 9 (Val.lenRow (i := 2) Tryz.underlying29 rfl rfl) rfl rfl rfl rfl (fun w hw => hw) (by decide +kernel) (KAt.takeY 10 (Val.bin rfl rfl rfl) rfl rfl rfl rfl (fun w hw => hw) (by decide +kernel) ?_)))))
            rw [show (((ovR lb).length : Nat) : Int) = (lb.length : Nat) from by rw [hob], beq_self_eq_true]
            refine KAt.take 11 (Val.pickT rfl rfl) rfl rfl rfl rfl (fun w hw => hw) (by decide +kernel) (KAt.take 12 (Val.move rfl) rfl rfl rfl rfl (fun w hw => hw) (by decide +kernel) (KAt.takeY 13 (Val.move rfl) rfl rfl rfl rfl (fun w hw => hw) (by decide +kernel) (KAt.takeY 14 (Val.loadAll (i := 6) Tryz.isAgg31 Tryz.sizeOf31 rfl rfl rfl) rfl rfl rfl rfl (fun w hw => hw) (by decide +kernel) (KAt.takeY 15 (Val.move rfl) rfl rfl rfl rfl (fun w hw => hw) (by decide +kernel) (KAt.takeY 16 (Val.loadAll (i := 6) Tryz.isAgg31 Tryz.sizeOf31 rfl rfl rfl) rfl rfl rfl rfl (fun w hw => hw) (by decide +kernel) (KAt.only 17 rfl (by decide +kernel) (At.yes rfl rfl (At.callN (fun w hw => changesJ_n x T2 (supS p i c).1 (supS p i c).2.1 (supS p i c).2.2 (4 + (supS p i c).2.1 / 8) w (hx.mod hw.mod) hT2 hsi) Tryz.call21 rfl rfl (fun v104 => ?_)))))))))
            rw [← hM]
            refine At.nil (KAt.go (fun w hw => hw.drop (List.Sublist.cons _ (List.Sublist.cons_cons _ (List.Sublist.cons_cons _ (List.Sublist.cons_cons _ (List.Sublist.cons_cons _ (List.Sublist.cons_cons _ (List.Sublist.cons_cons _ (List.Sublist.cons_cons _ (List.Sublist.refl _)))))))))) (KAt.only 18 rfl (by decide +kernel) (At.yes rfl rfl (At.callP (fun w hw => lentIn_p _ _ la L M (supS p i c) w (ht.mod hw.mod) (row_rd (hw.row (i := 4) rfl) (by decide)) (row_rd (hw.row (i := 0) rfl) (by decide)) htA hL1 hM1 hM8 hMp) Tryz.call20 rfl rfl (At.nil (KAt.go (fun w hw => hw.drop (List.Sublist.cons _ (List.Sublist.cons_cons _ (List.Sublist.cons_cons _ (List.Sublist.cons_cons _ (List.Sublist.cons_cons _ (List.Sublist.cons_cons _ (List.Sublist.cons_cons _ (List.Sublist.cons_cons _ (List.Sublist.refl _)))))))))) (KAt.take 19 (Val.pickT rfl rfl) rfl rfl rfl rfl (fun w hw => hw.drop (List.Sublist.cons _ (List.Sublist.cons_cons _ (List.Sublist.cons_cons _ (List.Sublist.cons_cons _ (List.Sublist.cons_cons _ (List.Sublist.cons_cons _ (List.Sublist.cons_cons _ (List.Sublist.cons_cons _ (List.Sublist.refl _)))))))))) (by decide +kernel) (KAt.take 20 (Val.assign rfl) rfl rfl rfl rfl (fun w hw => hw.drop (List.Sublist.cons _ (List.Sublist.cons_cons _ (List.Sublist.cons_cons _ (List.Sublist.cons_cons _ (List.Sublist.cons_cons _ (List.Sublist.cons_cons _ (List.Sublist.cons_cons _ (List.Sublist.cons_cons _ (List.Sublist.refl _)))))))))) (by decide +kernel) (KAt.done (by decide +kernel) (At.thenN (At.retC (At.ret1 (.inl rfl) rfl rfl rfl (fun w hw => ?_)))))))))))))
            exact ⟨rfl, hw.mod⟩
end Go.Proofs.YtfchinibjhcejaaGreatDoor
namespace Go.Proofs.YtfchinibjhcejaaGreatDoor
open Go Go.Wk
open Go.ChangeShapes Go.WideShapes Go.ChangeAt Go.RowKit
section
variable {H : Type} {enc : TypeId × Value → H} {P : Program} {W : World} {r : Reach} {base b0 : Nat} {held : Bool}
theorem all_of {p : Nat → Bool} {e : TypeId} : ∀ {ds : List (DataW H)} {i : Nat} {d : DataW H}, (DataW.weightsAll P e ds).all p = true → ds[i]? = some d → (DataW.weights P e d).all p = true
  | d' :: ds, 0, d, h, hd => by
    simp only [DataW.weightsAll, List.all_append, Bool.and_eq_true] at h
    obtain rfl : d' = d := by simpa using hd
    exact h.1
  | d' :: ds, i + 1, d, h, hd => by
    simp only [DataW.weightsAll, List.all_append, Bool.and_eq_true] at h
    exact all_of h.2 (by simpa using hd)
  | [], i, d, h, hd => by simp at hd
def Fl (enc : TypeId × Value → H) (P : Program) (W : World) (b0 : Nat) (held : Bool) (t : TypeId) (c : Value) : Prop :=
  ∃ fuel x, DataW.trod enc P W b0 (fun _ => true) held fuel t [c] = some x ∧ (DataW.weights P t x.1).all (· ≤ reachBytes) = true
theorem Fl.int {t : TypeId} {c : Value} (u : P.underlying t = some (.int .i64)) (h : Fl enc P W b0 held t c) : ∃ n, c = .int .i64 n ∧ Fits n := by
  obtain ⟨fuel, x, hf, _⟩ := h
  obtain ⟨n, g, _, w⟩ := DataW.trod_int u hf
  exact ⟨n, by simpa using g, has64 (by simpa [Lit.wf, IntKind.has] using w)⟩
theorem Fl.word {t : TypeId} {c : Value} (u : P.underlying t = some (.int .u64)) (h : Fl enc P W b0 held t c) : ∃ x, c = b64 x := by
  obtain ⟨fuel, x, hf, _⟩ := h
  obtain ⟨n, g, _, w⟩ := DataW.trod_int u hf
  obtain ⟨x, rfl⟩ := hasU64 (n := n) (by simpa [Lit.wf, IntKind.has] using w)
  exact ⟨x, by simpa using g⟩
theorem Fl.nums {t e : TypeId} {k : IntKind} {c : Value} (hu : P.underlying t = some (.slice e)) (he : P.underlying e = some (.int k)) (hc : P.cellsOf e = 1) (h : Fl enc P W b0 held t c) :
    ∃ zs : List Int, Rd W c 1 zs.length (zs.map (Value.int k)) ∧ zs.length * P.bytesOf e ≤ reachBytes ∧ ∀ z ∈ zs, (Lit.int k z).wf = true := by
  obtain ⟨fuel, x, hf, hw⟩ := h
  rcases open_ints hu he hc hf with ⟨h0, _⟩ | ⟨a, len, cap, zs, h0, _, hl, _, hz, hx, hcell, hwf⟩
  · obtain rfl : c = .slice none 0 0 := by simpa using h0
    exact ⟨[], Rd.nil W 1, by simp, by simp⟩
  · obtain rfl : c = .slice (some a) len cap := by simpa using h0
    simp only [if_true] at hz
    have hxe : x.1 = _ := congrArg Prod.fst hx
    have hdw : zs.length * P.bytesOf e ≤ reachBytes := by
      have hall := List.all_eq_true.1 hw
      rw [hxe] at hall
      unfold DataW.weights at hall
      rw [hu] at hall
      have := hall _ (List.mem_cons_self ..)
      simp only [decide_eq_true_eq, lits, List.length_map] at this
      rw [← List.length_append, List.take_append_drop] at this
      exact this
    have hln : (zs.take len).length = len := by rw [List.length_take]; omega
    have hsp : ∀ j, j < zs.length → a.spot = none := fun j hj => by
      have := World.cell?_spot (hcell 0 (by omega))
      simpa [Addr.add] using this
    refine ⟨zs.take len, ⟨some a, cap, by rw [hln], fun j u hj => ?_, by rw [List.length_map, Nat.mul_one], by omega, (fun h => by cases h), (fun hc0 a' ha => by cases ha; exact hsp 0 (by omega))⟩, Nat.le_trans (Nat.mul_le_mul_right _ (by omega)) hdw, fun z hm => hwf z (List.mem_of_mem_take hm)⟩
    rw [List.getElem?_map, List.getElem?_take] at hj
    split at hj
    · rename_i hlt
      have hjl : j < zs.length := by omega
      have hs := hsp j hjl
      obtain ⟨b, o, s⟩ := a
      have hs' : s = none := hs
      subst hs'
      refine ⟨b, o, rfl, ?_⟩
      have h1 := hcell j hjl
      rw [Addr.add_off] at h1
      rw [h1, ← hj, List.getElem?_eq_getElem hjl]
      simp [List.getD, hjl]
    · cases hj
theorem Fl.bytes {t e : TypeId} {c : Value} (hu : P.underlying t = some (.slice e)) (he : P.underlying e = some (.int .u8)) (hc : P.cellsOf e = 1) (hby : P.bytesOf e = 1) (h : Fl enc P W b0 held t c) :
    ∃ L : List UInt8, RdB W c L ∧ L.length ≤ 140737488355328 := by
  obtain ⟨zs, h1, h2, h3⟩ := Fl.nums hu he hc h
  rw [hby] at h2
  unfold reachBytes at h2
  have he : zs.map (Value.int .u8) = (zs.map (fun z => UInt8.ofNat z.toNat)).map bv := by
    rw [List.map_map]
    refine List.map_congr_left fun z hz => ?_
    obtain ⟨q, rfl⟩ := hasU8 (n := z) (by simpa [Lit.wf, IntKind.has] using h3 z hz)
    simp [bv]
  refine ⟨zs.map (fun z => UInt8.ofNat z.toNat), ?_, by rw [List.length_map]; omega⟩
  unfold RdB
  rw [List.length_map, ← he]
  exact h1
theorem elems_of {t e : TypeId} {v : Value} {fuel n : Nat} {x : DataW H × List MemPlace} (hu : P.underlying t = some (.slice e)) (hc : P.cellsOf e = n)
    (hf : DataW.trod enc P W b0 (fun _ => true) held fuel t [v] = some x) (hw : (DataW.weights P t x.1).all (· ≤ reachBytes) = true) :
    v = .slice none 0 0 ∨ ∃ a len cap, v = .slice (some a) len cap ∧ len ≤ cap ∧ len * P.bytesOf e ≤ reachBytes ∧ ∀ i, i < len → ∃ cs fuel y, cs.length = n ∧ (∀ j, j < n → W.cell? ((a.add (i * n)).add j) = cs[j]?) ∧ DataW.trod enc P W b0 (fun _ => true) held fuel e cs = some y ∧ (DataW.weights P e y.1).all (· ≤ reachBytes) = true := by
  rcases DataW.trod_slice hu hf with ⟨h0, _⟩ | ⟨a, len, cap, elems, rest, m, _, h0, rfl, hb, hl, hm, hlen, hel, hsp, hns⟩
  · left; simpa using h0
  · right
    refine ⟨a, len, cap, by simpa using h0, hl, ?_, fun i hi => ?_⟩
    · have hall := List.all_eq_true.1 hw
      unfold DataW.weights at hall
      rw [hu] at hall
      have := hall _ (List.mem_cons_self ..)
      simp only [decide_eq_true_eq, List.length_map, hlen] at this
      exact Nat.le_trans (Nat.mul_le_mul_right _ (Nat.le_add_right _ _)) this
    · have h1 := hel i hi
      rw [hc, List.getElem?_eq_getElem (by omega), Option.bind_eq_some_iff] at h1
      obtain ⟨cs, h2, h3⟩ := h1
      have h4 := World.cells?_some h2
      refine ⟨cs, m, _, h4.2.1, h4.2.2, h3, ?_⟩
      · unfold DataW.weights at hw
        rw [hu] at hw
        simp only [List.all_cons, List.all_append, Bool.and_eq_true] at hw
        exact all_of (i := i) hw.2.1 (by rw [List.getElem?_map, List.getElem?_eq_getElem (show i < elems.length by omega)]; rfl)
end
structure OpT where
  kd : Int
  ad : Int
  n : Int
  x : BitVec 64
  sp : Int
  si : Int
  sc : Int
  sd : Int
  vC : Value
  C : List (Int × BitVec 64)
  vL : Value
  cs : List Int
  vB : Value
  lB : List UInt8
def opC (o : OpT) : List Value := [.int .i64 o.kd, .int .i64 o.ad, .int .i64 o.n, b64 o.x, .int .i64 o.sp, .int .i64 o.si, .int .i64 o.sc, .int .i64 o.sd, o.vC, o.vL, o.vB]
def oC (L : List OpT) : List Value := L.flatMap opC
def In64 (L : List (Int × BitVec 64)) : Prop := ∀ q ∈ L, -9223372036854775808 ≤ q.1 ∧ q.1 ≤ 9223372036854775807
structure OpOk (w : World) (o : OpT) : Prop where
  c : RdP w o.vC o.C
  l : RdI w o.vL o.cs
  b : RdB w o.vB o.lB
  cb : In64 o.C
  cl : o.C.length ≤ 8796093022208
  ll : o.cs.length ≤ 17592186044416
  bl : o.lB.length ≤ 140737488355328
  n : -9223372036854775808 ≤ o.n ∧ o.n ≤ 9223372036854775807
  a : -9223372036854775808 ≤ o.ad ∧ o.ad ≤ 9223372036854775807
  p : -9223372036854775808 ≤ o.sp ∧ o.sp ≤ 9223372036854775807
def RdO (w : World) (v : Value) (L : List OpT) : Prop := Rd w v 11 L.length (oC L) ∧ ∀ o ∈ L, OpOk w o
theorem OpOk.mod {w w' : World} {o : OpT} (h : OpOk w o) (hm : Mod (fun _ => False) w w') : OpOk w' o := by obtain ⟨a, b, c, d, e, f, g, i, j, k⟩ := h; exact ⟨a.mod hm, b.mod hm, c.mod hm, d, e, f, g, i, j, k⟩
theorem RdO.mod {w w' : World} {v : Value} {L : List OpT} (h : RdO w v L) (hm : Mod (fun _ => False) w w') : RdO w' v L := ⟨h.1.mod hm, fun o ho => (h.2 o ho).mod hm⟩
section
variable {H : Type} {enc : TypeId × Value → H} {P : Program} {W : World} {base b0 : Nat} {held : Bool}
def FlL (enc : TypeId × Value → H) (P : Program) (W : World) (b0 : Nat) (held : Bool) (t : TypeId) (cs : List Value) : Prop :=
  ∃ fuel x, DataW.trod enc P W b0 (fun _ => true) held fuel t cs = some x ∧ (DataW.weights P t x.1).all (· ≤ reachBytes) = true
theorem flL_field {t u : TypeId} {fs : Array Field} {cs : List Value} {i o n : Nat} {f : Field} (ht : P.underlying t = some (.struct fs)) (h : FlL enc P W b0 held t cs) (hfi : fs[i]? = some f) (ho : f.offset = o) (hu : f.type = u) (hn : P.cellsOf u = n) : FlL enc P W b0 held u ((cs.drop o).take n) := by
  obtain ⟨fuel, x, hf, hw⟩ := h
  obtain ⟨xs, m, rfl, hx, _, hsz, hfl⟩ := DataW.trod_struct ht hf
  have h1 := hfl i f hfi
  rw [ho, hu, hn] at h1
  have hil : i < fs.size := (Array.getElem?_eq_some_iff.1 hfi).1
  have hxl : i < xs.length := by rw [hsz]; exact hil
  rw [List.getElem?_eq_getElem hxl] at h1
  refine ⟨m, _, h1, ?_⟩
  have hxe : x.1 = _ := congrArg Prod.fst hx
  rw [hxe] at hw
  unfold DataW.weights at hw
  rw [ht] at hw
  refine each_of hw (i := i) ?_ (by rw [List.getElem?_map, List.getElem?_eq_getElem hxl]; rfl)
  rw [List.getElem?_map, Array.getElem?_toList, hfi]
  exact congrArg some hu
theorem slice_spot {t e : TypeId} {fuel n len cap : Nat} {a : Addr} {x : DataW H × List MemPlace} (hu : P.underlying t = some (.slice e)) (hc : P.cellsOf e = n) (hn : 0 < n) (hf : DataW.trod enc P W b0 (fun _ => true) held fuel t [.slice (some a) len cap] = some x) (h0 : 0 < cap) : a.spot = none := by
  rcases DataW.trod_slice hu hf with ⟨h, _⟩ | ⟨a', len', cap', elems, rest, m, _, h1, rfl, hb, hl, hm, hlen, hel, hsp, hns⟩
  · simp at h
  · simp only [List.cons.injEq, Value.slice.injEq, Option.some.injEq, and_true] at h1
    obtain ⟨rfl, rfl, rfl⟩ := h1
    have key : ∀ y, (W.cells? b0 (a.add (0 * P.cellsOf e)) (P.cellsOf e)).bind (DataW.trod enc P W b0 (fun _ => true) held m e) = some y → a.spot = none := fun y hy => by
      rw [hc, Option.bind_eq_some_iff] at hy
      obtain ⟨cs, h2, _⟩ := hy
      have h4 := World.cells?_some h2
      have h5 := h4.2.2 0 hn
      rw [List.getElem?_eq_getElem (by rw [h4.2.1]; exact hn)] at h5
      have := World.cell?_spot h5
      simpa [Addr.add] using this
    rcases Nat.eq_zero_or_pos len with h | h
    · obtain ⟨g1, g2⟩ := hsp rfl
      have g3 := g2 0 (by omega)
      obtain ⟨y, hy⟩ : ∃ y, rest[0]? = some y := ⟨_, List.getElem?_eq_getElem (by omega)⟩
      rw [hy, h, Nat.zero_add] at g3
      exact key _ g3
    · have g3 := hel 0 h
      rw [List.getElem?_eq_getElem (by omega)] at g3
      exact key _ g3
end
section
variable {H : Type} {enc : TypeId × Value → H} {P : Program} {W : World} {base b0 : Nat} {held : Bool}
theorem Fl.pairs {t e ti tu : TypeId} {fs : Array Field} {f0 f1 : Field} {c : Value} (hu : P.underlying t = some (.slice e)) (he : P.underlying e = some (.struct fs)) (hc : P.cellsOf e = 2) (hby : P.bytesOf e = 16)
    (hf0 : fs[0]? = some f0) (hf1 : fs[1]? = some f1) (o0 : f0.offset = 0) (o1 : f1.offset = 1) (t0 : f0.type = ti) (t1 : f1.type = tu) (ui : P.underlying ti = some (.int .i64)) (uu : P.underlying tu = some (.int .u64)) (ci : P.cellsOf ti = 1) (cu : P.cellsOf tu = 1) (h : Fl enc P W b0 held t c) :
    ∃ L : List (Int × BitVec 64), RdP W c L ∧ L.length ≤ 8796093022208 ∧ In64 L := by
  obtain ⟨fuel, x, hf, hw⟩ := h
  rcases elems_of (n := 2) hu hc hf hw with rfl | ⟨a, len, cap, rfl, hlc, hb, hel⟩
  · exact ⟨[], Rd.nil W 2, by simp, fun q hq => by cases hq⟩
  · rw [hby] at hb
    unfold reachBytes at hb
    obtain ⟨L, hLl, hL⟩ := choose_list' (Q := fun j (z : Int × BitVec 64) => W.cell? ((a.add (j * 2)).add 0) = some (.int .i64 z.1) ∧ W.cell? ((a.add (j * 2)).add 1) = some (b64 z.2) ∧ (-9223372036854775808 ≤ z.1 ∧ z.1 ≤ 9223372036854775807)) len (fun j hj => by
      obtain ⟨cs, fu, y, h1, h2, h3, h4⟩ := hel j hj
      obtain ⟨c0, c1, rfl⟩ : ∃ c0 c1, cs = [c0, c1] := by match cs, h1 with | [c0, c1], _ => exact ⟨c0, c1, rfl⟩
      obtain ⟨n0, rfl, hn0⟩ := Fl.int ui (flL_field he ⟨fu, y, h3, h4⟩ hf0 o0 t0 ci)
      obtain ⟨n1, rfl⟩ := Fl.word uu (flL_field he ⟨fu, y, h3, h4⟩ hf1 o1 t1 cu)
      exact ⟨(n0, n1), h2 0 (by decide), h2 1 (by decide), hn0⟩)
    subst hLl
    have hsp : 0 < cap → a.spot = none := slice_spot hu hc (by decide) hf
    refine ⟨L, ⟨some a, cap, rfl, fun j u hj => ?_, prC_length L, hlc, (fun h => by cases h), (fun hc0 a' ha => by cases ha; exact hsp hc0)⟩, by omega, fun q hq => by obtain ⟨i, hi⟩ := List.getElem?_of_mem hq; exact (hL i q hi).2.2⟩
    have hjl : j < L.length * 2 := by rw [← prC_length L]; exact (List.getElem?_eq_some_iff.1 hj).1
    have hq : L[j / 2]? = some (L[j / 2]'(by omega)) := List.getElem?_eq_getElem _
    have hz := hL (j / 2) _ hq
    have hp := prC_at hq
    have hs := hsp (by omega)
    obtain ⟨b, o, s⟩ := a
    have hs' : s = none := hs
    subst hs'
    refine ⟨b, o, rfl, ?_⟩
    rcases Nat.mod_two_eq_zero_or_one j with hm | hm
    · have e : j / 2 * 2 = j := by omega
      rw [e] at hp hz
      rw [hj] at hp
      rw [Option.some.inj hp.1]
      have := hz.1
      rwa [Addr.add_off, Addr.add_off, Nat.add_zero] at this
    · have e : j / 2 * 2 + 1 = j := by omega
      rw [e] at hp
      rw [hj] at hp
      rw [Option.some.inj hp.2]
      have := hz.2.1
      rwa [Addr.add_off, Addr.add_off, Nat.add_assoc, e] at this
end
section
variable {H : Type} {enc : TypeId × Value → H} {W : World} {base b0 : Nat} {held : Bool}
theorem fl_pairs_c {c : Value} (h : Fl enc Tryz.prog W b0 held 24 c) : ∃ L : List (Int × BitVec 64), RdP W c L ∧ L.length ≤ 8796093022208 ∧ In64 L :=
  Fl.pairs (ti := 3) (tu := 43) Tryz.underlying24 Tryz.underlying56 (by kernel_rfl) (by kernel_rfl) rfl rfl rfl rfl rfl rfl Tryz.underlying3 Tryz.underlying43 (by kernel_rfl) (by kernel_rfl) h
end
section
variable {H : Type} {enc : TypeId × Value → H} {W : World} {base b0 : Nat} {held : Bool}
set_option maxRecDepth 100000 in
theorem arg_start {r : Reach} {v : Value} {d : DataW H} {ps : List MemPlace} (h : Value.okWide Tryz.prog W r base 27 v) (hd : DataW.Trod enc Tryz.prog W b0 (fun _ => true) held 27 v d ps) (hw : (DataW.weights Tryz.prog 27 d).all (· ≤ reachBytes) = true) :
    ∃ (p i c : Int) (bare : Bool) (vW vU : Value) (Ws Us : List (Int × BitVec 64)), v = .agg #[.int .i64 p, .int .i64 i, .int .i64 c, .bool bare, vW, vU] ∧ RdP W vW Ws ∧ Ws.length ≤ 8796093022208 ∧ RdP W vU Us ∧ Us.length ≤ 8796093022208 ∧ In64 Ws ∧ In64 Us ∧ (-9223372036854775808 ≤ p ∧ p ≤ 9223372036854775807) := by
  obtain ⟨fuel, hf⟩ := hd
  have U := Tryz.underlying27
  obtain ⟨cs, rfl, hl, _⟩ := arg_struct U h
  rw [show Tryz.prog.cellsOf 27 = 6 by kernel_rfl] at hl
  have hcs : (Value.agg cs.toArray).cells.toList = cs := by simp [Value.cells]
  rw [hcs] at hf
  obtain ⟨c0, c1, c2, c3, c4, c5, rfl⟩ : ∃ c0 c1 c2 c3 c4 c5, cs = [c0, c1, c2, c3, c4, c5] := by
    match cs, hl with
    | [c0, c1, c2, c3, c4, c5], _ => exact ⟨c0, c1, c2, c3, c4, c5, rfl⟩
  have hr : FlL enc Tryz.prog W b0 held 27 [c0, c1, c2, c3, c4, c5] := ⟨fuel, _, hf, hw⟩
  have hs := flL_field (i := 0) (o := 0) (n := 3) (u := 23) U hr rfl rfl rfl (by kernel_rfl)
  have V := Tryz.underlying23
  obtain ⟨p, rfl, hp⟩ := Fl.int Tryz.underlying3 (flL_field (i := 0) (o := 0) (n := 1) (u := 3) V hs rfl rfl rfl (by kernel_rfl))
  obtain ⟨i, rfl, _⟩ := Fl.int Tryz.underlying3 (flL_field (i := 1) (o := 1) (n := 1) (u := 3) V hs rfl rfl rfl (by kernel_rfl))
  obtain ⟨c, rfl, _⟩ := Fl.int Tryz.underlying3 (flL_field (i := 2) (o := 2) (n := 1) (u := 3) V hs rfl rfl rfl (by kernel_rfl))
  obtain ⟨bare, rfl⟩ : ∃ bare, c3 = .bool bare := by
    obtain ⟨f3, y3, h3, _⟩ := flL_field (i := 1) (o := 3) (n := 1) (u := 4) U hr rfl rfl rfl (by kernel_rfl)
    obtain ⟨b, g, _⟩ := DataW.trod_bool Tryz.underlying4 h3
    exact ⟨b, by simpa using g⟩
  obtain ⟨lW, hW, hWl, hWb⟩ := fl_pairs_c (flL_field (i := 2) (o := 4) (n := 1) (u := 24) U hr rfl rfl rfl (by kernel_rfl))
  obtain ⟨lU, hU, hUl, hUb⟩ := Fl.pairs (ti := 3) (tu := 43) Tryz.underlying25 Tryz.underlying45 (by kernel_rfl) (by kernel_rfl) rfl rfl rfl rfl rfl rfl Tryz.underlying3 Tryz.underlying43 (by kernel_rfl) (by kernel_rfl) (flL_field (i := 3) (o := 5) (n := 1) (u := 25) U hr rfl rfl rfl (by kernel_rfl))
  exact ⟨p, i, c, bare, c4, c5, lW, lU, rfl, hW, hWl, hU, hUl, hWb, hUb, hp⟩
end
end Go.Proofs.YtfchinibjhcejaaGreatDoor
