/- PmemApart: lendDoubts. -/
import Derived.Test.YtgighokkflchmaaA2
set_option linter.unusedVariables false
set_option linter.unusedSimpArgs false
namespace Go.Proofs.Ytgighokkflchmaa
open Go Go.Wk

theorem newsR_mk {D : List Dq} {a : Int} {o : BitVec 64} {m i n : Nat} {v : Value} : newsR (D ++ [((a, o, mks m i n), v)]) = newsR D ++ [rowR v tW 1 n ((mks m i n).map b64)] := by
  rw [newsR_snoc]
  show newsR D ++ [rowR v tW 1 (mks m i n).length _] = _
  rw [mks_len]
theorem mk_snoc {m i : Nat} {D : List Dq} {n : Nat} {v : Value} (h : ∀ k x, D[k]? = some x → MkD m k x) (hD : D.length = i) (hn : n ≤ 1000000 := by assumption) : ∀ k x, (D ++ [((-1000 * (m : Int) - (i : Int) - 1, BitVec.ofNat 64 (1000 * m + i), mks m i n), v)])[k]? = some x → MkD m k x := fun k x hx => by
  rcases Nat.lt_or_ge k D.length with h1 | h1
  · rw [List.getElem?_append_left h1] at hx; exact h k x hx
  · rw [List.getElem?_append_right h1] at hx
    have hk : k = i := by
      have := (List.getElem?_eq_some_iff.1 hx).1
      simp at this; omega
    subst hk
    rw [hD, Nat.sub_self] at hx
    obtain rfl : _ = x := Option.some.inj hx
    exact ⟨rfl, rfl, by simp only [mks_len], by simp only [mks_len]; exact hn⟩

theorem At.tailOne {Γ : Ctx} {E : Env} {H : List Res} {φ : Act → World → Prop} (i : Nat) {L : List RdF} {v : Value} {e sz n : Nat} {xs : List Value} (hi : H[i]? = some (tailR L v e sz n xs)) (k : v.oneCell' = true → At Γ E H φ) : At Γ E H φ := fun a w ha hw => by
  obtain ⟨A, c, hv⟩ := row_slice (v := v) (hw.all _ (List.mem_of_getElem? hi)).1
  exact k (by rw [hv]; rfl) a w ha hw
theorem fn_snoc {D : List Dq} {F : List RdF} {i : Nat} {x : Dq} {f : RdF} (h : ∀ k x, k < i → D[k]? = some x → fN x ∈ F) (hx : D[i]? = some x) : ∀ k y, k < i + 1 → D[k]? = some y → fN y ∈ [f, fN x] ++ F := fun k y hk hy => by
  rcases Nat.lt_or_ge k i with h1 | h1
  · exact List.mem_append_right _ (h k y h1 hy)
  · obtain rfl : k = i := by omega
    obtain rfl := Option.some.inj (hx.symm.trans hy)
    simp
theorem fa_snoc {m : Nat} {D : List Dq} {F : List RdF} {i : Nat} {x : Dq} {f : RdF} {avs : List Value} {a0 : Value} (h : ∀ (k : Nat) (x : Dq) (a : Value), D[k]? = some x → avs[k]? = some a → fA m x a ∈ F) (hl : avs.length = i) (hx : D[i]? = some x) (he : f = ⟨a0, 1, x.1.2.2.length + 3, x.1.2.2.map b64 ++ (ext m).map b64⟩ := by rfl) : ∀ (k : Nat) (y : Dq) (a : Value), D[k]? = some y → (avs ++ [a0])[k]? = some a → fA m y a ∈ [f, fN x] ++ F := fun k y a hy ha => by
  rcases Nat.lt_or_ge k avs.length with h1 | h1
  · rw [List.getElem?_append_left h1] at ha
    exact List.mem_append_right _ (h k y a hy ha)
  · rw [List.getElem?_append_right h1] at ha
    have hk : k = i := by
      have := (List.getElem?_eq_some_iff.1 ha).1
      simp at this; omega
    subst hk
    obtain rfl := Option.some.inj (hx.symm.trans hy)
    rw [hl, Nat.sub_self] at ha
    obtain rfl : a0 = a := Option.some.inj ha
    subst he
    simp [fA, List.map_append]

theorem lendDoubts_g (v : Value) (Q : List Dq) (m : Nat) (w : World) (hm : m ≤ 1000) (hK : Q.length ≤ 65536) (hqb : ∀ x ∈ Q, x.1.2.2.length ≤ 1000000) (hd : (dbtR v Q).holds w) :
    GU Try.prog 12 [v, .int .i64 (m : Int)] (dbtR v Q) (fun y : Td × List RdF => .agg #[y.1.l, y.1.g, y.1.nn, y.1.aa, .int .i64 (y.1.m : Int)]) (fun y => readsR y.2) (fun y => TdOk y.1 y.2 ∧ y.1.m = m) w := by
 obtain ⟨A, ca, rfl⟩ := row_slice (dbt_row hd)
 refine enter (feet [dbtR (.slice A Q.length ca) Q]) [dbtR (.slice A Q.length ca) Q] Try.func12 rfl Try.ntmps12 rfl (Rep.one hd) ?_
 refine At.starHead 0 rfl ?_
 simp only [sc0, scS]
 simp only [envOf]
 refine tR ?_
 refine At.alloc Try.zeroValue47 rfl rfl (fun b1 => ?_)
 refine tE ?_
 refine tR ?_
 refine tM rfl rfl ?_
 refine tM rfl rfl ?_
 refine At.val (Val.build (fun a ha => by simp only [List.map_toArray, List.map_cons, List.map_nil, ha.eval (x := (.tmp 10)) rfl, ha.eval (x := (.tmp 11)) rfl] <;> rfl) (bld_47_0_4 _ _ _ _ )) rfl rfl rfl ?_
 refine At.alloc Try.zeroValue47 rfl rfl (fun b2 => ?_)
 refine At.storeAll (i := 0) Try.sizeOf47 rfl rfl rfl (by simp [Value.oneCell']) rfl rfl ?_
 simp only [sc0, scS]
 refine tE ?_
 refine At.seq ?_
 refine At.seq ?_
 refine At.rowNil 66 1 ?_
 refine At.starNil ?_
 refine At.region ?_
 refine tA rfl rfl ?_
 refine tE ?_
 refine At.block ?_
 skip
 refine At.loop (σ := Nat × List Dq × List Dq × Value) (fun s => s.1 ≤ Q.length ∧ s.2.1.length = s.1 ∧ (s.2.1 ++ s.2.2.1).length = Q.length ∧ (∀ k x, s.2.1[k]? = some x → MkD m k x) ∧ (∀ x ∈ s.2.2.1, x.1.2.2.length ≤ 1000000)) (fun s => [(0, (.slice A Q.length ca)), (1, .int .i64 (m : Int)), (4, .pointer (some ⟨b1, 0, none⟩)), (5, .pointer (some ⟨b2, 0, none⟩)), (6, .int .i64 (s.1 : Int))]) (fun s => [star (newsR s.2.1), rowR s.2.2.2 66 1 (s.2.1.length) (s.2.1.map Prod.snd), blk b2 47 ([(.slice A Q.length ca), Value.slice none 0 0, s.2.2.2, Value.slice none 0 0, Value.int .i64 (m : Int)]), blk b1 47 ([Value.slice none 0 0, Value.slice none 0 0, Value.slice none 0 0, Value.slice none 0 0, Value.int .i64 0]), rowR (.slice A Q.length ca) 74 3 (Q.length) (dC (s.2.1 ++ s.2.2.1)), star (newsR s.2.2.1)]) (fun s => Q.length - s.1) (0, [], Q, .slice none 0 0) ⟨Nat.zero_le _, rfl, rfl, (fun k x h => by cases h), hqb⟩ (Sub.cons rfl (Sub.cons rfl (Sub.cons rfl (Sub.cons rfl (Sub.cons rfl Sub.nil))))) (List.Perm.refl _) ?_
 intro s hs
 obtain ⟨i, D, T, vn⟩ := s
 dsimp only at hs ⊢
 obtain ⟨hi, hD, hDT, hmk, htl⟩ := hs
 refine At.seq ?_
 refine tR ?_
 refine tM rfl rfl ?_
 refine tM rfl rfl ?_
 refine At.val (Val.len (bt := #[]) Try.underlying44 rfl) rfl rfl rfl ?_
 refine At.val (Val.bin rfl rfl rfl) rfl rfl rfl ?_
 refine tE ?_
 refine At.cond rfl (fun h3 => ?_) (fun h3 => ?_)
 ·skip
  try simp only [hasB, isSizeB, Bool.not_eq_true', Bool.not_eq_false', bne_iff_ne, ne_eq, bne_eq_false_iff_eq, beq_iff_eq, beq_eq_false_iff_ne, decide_eq_true_eq, decide_eq_false_iff_not, gt_iff_lt, ge_iff_le] at h3
  obtain ⟨⟨⟨xa, xo, xn⟩, xv⟩, T', rfl⟩ := lenDT hDT hD (by omega)
  have hxl : xn.length ≤ 1000000 := htl _ (List.mem_cons_self ..)
  have hDx : ∀ x : Dq, (D ++ x :: T').length = Q.length := fun x => by rw [← hDT, List.length_append, List.length_append]; rfl
  refine At.starHead (r := wrow 32 xv xn) (L := newsR T') 5 rfl ?_
  simp only [sc0, scS]
  refine At.rowIs (i := 0) rfl (fun ax cx hv => ?_)
  subst hv
  refine At.skipC ?_
  refine At.thenN ?_
  refine At.seq ?_
  refine At.block ?_
  refine tR ?_
  refine tM rfl rfl ?_
  refine tM rfl rfl ?_
  refine tM rfl rfl ?_
  first | refine At.val (Val.mulI rfl rfl (by omega) (by omega)) rfl rfl rfl ?_ | refine At.val (Val.bin rfl rfl rfl) rfl rfl rfl ?_
  refine tM rfl rfl ?_
  first | refine At.val (Val.subI rfl rfl (by omega) (by omega)) rfl rfl rfl ?_ | refine At.val (Val.bin rfl rfl rfl) rfl rfl rfl ?_
  first | refine At.val (Val.subI rfl rfl (by omega) (by omega)) rfl rfl rfl ?_ | refine At.val (Val.bin rfl rfl rfl) rfl rfl rfl ?_
  refine At.val (Val.indexRow (i := 5) (i * 3) (by omega) Try.underlying44 Try.sizeOf74 rfl rfl rfl (by omega) (by omega)) rfl rfl rfl ?_
  refine At.val (Val.field ((i * 3 + 0)) rfl fo_74_0 rfl) rfl rfl rfl ?_
  refine At.storeRow (i := 5) (q := i * 3 + 0) Try.sizeOf3 rfl rfl rfl rfl (by rw [dC_length, hDx]; omega) ?_
  simp only [sc0, scS]
  rw [dC_set0 hD]
  refine tE ?_
  refine tR ?_
  refine tM rfl rfl ?_
  refine tM rfl rfl ?_
  refine tM rfl rfl ?_
  first | refine At.val (Val.mulI rfl rfl (by omega) (by omega)) rfl rfl rfl ?_ | refine At.val (Val.bin rfl rfl rfl) rfl rfl rfl ?_
  refine tM rfl rfl ?_
  first | refine At.val (Val.addI rfl rfl (by omega) (by omega)) rfl rfl rfl ?_ | refine At.val (Val.bin rfl rfl rfl) rfl rfl rfl ?_
  refine At.val (Val.toU Try.underlying3 Try.underlying32 rfl (by omega) (by omega)) rfl rfl rfl ?_
  rw [show Value.int .u64 (1000 * (m : Int) + (i : Int)) = b64 (BitVec.ofNat 64 (1000 * m + i)) from by rw [b64, ofN_int (by omega)] <;> rfl]
  refine At.val (Val.indexRow (i := 5) (i * 3) (by omega) Try.underlying44 Try.sizeOf74 rfl rfl rfl (by omega) (by omega)) rfl rfl rfl ?_
  refine At.val (Val.field ((i * 3 + 1)) rfl fo_74_1 rfl) rfl rfl rfl ?_
  refine At.storeRow (i := 5) (q := i * 3 + 1) Try.sizeOf32 rfl rfl rfl rfl (by rw [dC_length, hDx]; omega) ?_
  simp only [sc0, scS]
  rw [dC_set1 hD]
  refine tE ?_
  refine At.seq ?_
  apply At.any (t := 10)
  · rfl
  refine KAt.pin (fun w hw => hw.drop (List.Sublist.cons _ (List.Sublist.cons _ (List.Sublist.cons _ (List.Sublist.cons_cons _ (List.Sublist.cons_cons _ (List.Sublist.cons_cons _ (List.Sublist.cons _ (List.Sublist.refl _))))))))) ?_
  refine KAt.take 0 (Val.field 2 rfl fo_47_2 rfl) rfl rfl rfl rfl (fun w hw => hw.drop (List.Sublist.cons _ (List.Sublist.cons _ (List.Sublist.cons _ (List.Sublist.cons_cons _ (List.Sublist.cons_cons _ (List.Sublist.cons_cons _ (List.Sublist.cons _ (List.Sublist.refl _))))))))) (by decide +kernel) ?_
  refine KAt.take 1 (Val.load (i := 0) Try.isAgg45 rfl rfl rfl) rfl rfl rfl rfl (fun w hw => hw.drop (List.Sublist.cons _ (List.Sublist.cons _ (List.Sublist.cons _ (List.Sublist.cons_cons _ (List.Sublist.cons_cons _ (List.Sublist.cons_cons _ (List.Sublist.cons _ (List.Sublist.refl _))))))))) (by decide +kernel) ?_
  refine KAt.take 2 (Val.move rfl) rfl rfl rfl rfl (fun w hw => hw.drop (List.Sublist.cons _ (List.Sublist.cons _ (List.Sublist.cons _ (List.Sublist.cons_cons _ (List.Sublist.cons_cons _ (List.Sublist.cons_cons _ (List.Sublist.cons _ (List.Sublist.refl _))))))))) (by decide +kernel) ?_
  refine KAt.take 3 (Val.move rfl) rfl rfl rfl rfl (fun w hw => hw.drop (List.Sublist.cons _ (List.Sublist.cons _ (List.Sublist.cons _ (List.Sublist.cons_cons _ (List.Sublist.cons_cons _ (List.Sublist.cons_cons _ (List.Sublist.cons _ (List.Sublist.refl _))))))))) (by decide +kernel) ?_
  refine KAt.take 4 (Val.indexRow (i := 2) (i * 3) (by omega) Try.underlying44 Try.sizeOf74 rfl rfl rfl (by omega) (by omega)) rfl rfl rfl rfl (fun w hw => hw.drop (List.Sublist.cons _ (List.Sublist.cons _ (List.Sublist.cons _ (List.Sublist.cons_cons _ (List.Sublist.cons_cons _ (List.Sublist.cons_cons _ (List.Sublist.cons _ (List.Sublist.refl _))))))))) (by decide +kernel) ?_
  refine KAt.take 5 (Val.field ((i * 3 + 2)) rfl fo_74_2 rfl) rfl rfl rfl rfl (fun w hw => hw.drop (List.Sublist.cons _ (List.Sublist.cons _ (List.Sublist.cons _ (List.Sublist.cons_cons _ (List.Sublist.cons_cons _ (List.Sublist.cons_cons _ (List.Sublist.cons _ (List.Sublist.refl _))))))))) (by decide +kernel) ?_
  refine KAt.take 6 (Val.loadRow (i := 2) (u := (.slice ax xn.length cx)) Try.isAgg66 rfl rfl (dC_at (j := i) (i := 2) (c := ((_, _, xn), (.slice ax xn.length cx))) (by rw [List.getElem?_append_right (by omega), show i - D.length = 0 from by omega]; rfl) rfl)) rfl rfl rfl rfl (fun w hw => hw.drop (List.Sublist.cons _ (List.Sublist.cons _ (List.Sublist.cons _ (List.Sublist.cons_cons _ (List.Sublist.cons_cons _ (List.Sublist.cons_cons _ (List.Sublist.cons _ (List.Sublist.refl _))))))))) (by decide +kernel) ?_
  refine KAt.only 7 rfl (by decide +kernel) ?_
  refine At.buildSl (fun a ha => by simp only [List.map_toArray, List.map_cons, List.map_nil, ha.eval (x := (.tmp 43)) rfl]; try rfl) (bs_45_1 _ _ _ ) rfl (fun b4 => ?_)
  refine At.nil ?_
  refine KAt.go (fun w hw => hw.drop (List.Sublist.cons _ (List.Sublist.cons _ (List.Sublist.cons _ (List.Sublist.cons _ (List.Sublist.cons_cons _ (List.Sublist.cons_cons _ (List.Sublist.cons_cons _ (List.Sublist.cons _ (List.Sublist.refl _)))))))))) ?_
  refine KAt.only 8 rfl (by decide +kernel) ?_
  refine At.append (i := 3) (sz := 1) (by_ := 24) (ys := [(.slice ax xn.length cx)]) Try.underlying45 info_66 rfl rfl rfl rfl rfl rfl rfl rfl rfl (fun w hw j u hj => by rw [Nat.zero_add]; exact ((hw.blk (i := 0) rfl).cell j).trans hj) (by simp [Value.oneCell']) (by omega) (by omega) rfl (fun v5 => ?_)
  simp only [sc0, scS]
  refine At.nil ?_
  refine KAt.go (fun w hw => hw.drop (List.Sublist.cons _ (List.Sublist.cons _ (List.Sublist.cons _ (List.Sublist.cons _ (List.Sublist.cons_cons _ (List.Sublist.cons_cons _ (List.Sublist.cons_cons _ (List.Sublist.cons _ (List.Sublist.refl _)))))))))) ?_
  refine KAt.take 9 (Val.field 2 rfl fo_47_2 rfl) rfl rfl rfl rfl (fun w hw => hw.drop (List.Sublist.cons _ (List.Sublist.cons _ (List.Sublist.cons _ (List.Sublist.cons _ (List.Sublist.cons_cons _ (List.Sublist.cons_cons _ (List.Sublist.cons_cons _ (List.Sublist.cons _ (List.Sublist.refl _)))))))))) (by decide +kernel) ?_
  refine KAt.only 10 rfl (by decide +kernel) ?_
  refine At.rowOne (i := 3) rfl (fun h1c => ?_)
  refine At.store (i := 4) Try.sizeOf45 rfl rfl h1c rfl (by simp) ?_
  simp only [sc0, scS]
  refine At.drop 0 ?_
  simp only [ec0, ecS]
  refine At.nil ?_
  refine KAt.goT rfl ?_
  refine KAt.done (by decide +kernel) ?_
  refine At.thenN ?_
  refine tR ?_
  refine tA rfl rfl ?_
  refine tE ?_
  refine At.block ?_
  skip
  refine At.loop (σ := Nat) (fun q => q ≤ xn.length) (fun q => [(0, (.slice A Q.length ca)), (1, .int .i64 (m : Int)), (4, .pointer (some ⟨b1, 0, none⟩)), (5, .pointer (some ⟨b2, 0, none⟩)), (6, .int .i64 (i : Int)), (7, .int .i64 (q : Int))]) (fun q => [rowR (.slice ax xn.length cx) 32 1 (xn.length) ((wrN m i xn q).map b64), star (newsR D), rowR v5 66 1 (D.length + 1) (D.map Prod.snd ++ [(.slice ax xn.length cx)]), blk b2 47 ([(.slice A Q.length ca), Value.slice none 0 0, v5, Value.slice none 0 0, Value.int .i64 (m : Int)]), blk b1 47 ([Value.slice none 0 0, Value.slice none 0 0, Value.slice none 0 0, Value.slice none 0 0, Value.int .i64 0]), rowR (.slice A Q.length ca) 74 3 (Q.length) (dC (D ++ (((-1000 * (m : Int) - (i : Int) - 1), BitVec.ofNat 64 (1000 * m + i), xn), (.slice ax xn.length cx)) :: T')), star (newsR T')]) (fun q => xn.length - q) 0 (Nat.zero_le _) (Sub.cons rfl (Sub.cons rfl (Sub.cons rfl (Sub.cons rfl (Sub.cons rfl (Sub.cons rfl Sub.nil)))))) (by rw [wrN_0]) ?_
  intro q hs
  refine At.seq ?_
  refine tR ?_
  refine tM rfl rfl ?_
  refine tM rfl rfl ?_
  refine tM rfl rfl ?_
  refine At.val (Val.indexRow (i := 5) (i * 3) (by omega) Try.underlying44 Try.sizeOf74 rfl rfl rfl (by omega) (by omega)) rfl rfl rfl ?_
  refine At.val (Val.field ((i * 3 + 2)) rfl fo_74_2 rfl) rfl rfl rfl ?_
  refine At.val (Val.loadRow (i := 5) (u := (.slice ax xn.length cx)) Try.isAgg66 rfl rfl (dC_at (j := i) (i := 2) (c := ((_, _, xn), (.slice ax xn.length cx))) (by rw [List.getElem?_append_right (by omega), show i - D.length = 0 from by omega]; rfl) rfl)) rfl rfl rfl ?_
  refine At.val (Val.len (bt := #[]) Try.underlying66 rfl) rfl rfl rfl ?_
  refine At.val (Val.bin rfl rfl rfl) rfl rfl rfl ?_
  refine tE ?_
  refine At.cond rfl (fun h6 => ?_) (fun h6 => ?_)
  ·skip
   try simp only [hasB, isSizeB, Bool.not_eq_true', Bool.not_eq_false', bne_iff_ne, ne_eq, bne_eq_false_iff_eq, beq_iff_eq, beq_eq_false_iff_ne, decide_eq_true_eq, decide_eq_false_iff_not, gt_iff_lt, ge_iff_le] at h6
   refine At.skipC ?_
   refine At.thenN ?_
   refine At.seq ?_
   refine At.block ?_
   refine At.tail 11 rfl (by decide +kernel) ?_
   simp only [List.take_succ_cons, List.take_zero, List.drop_succ_cons, List.drop_zero]
   refine qM rfl rfl ?_
   refine qM rfl rfl ?_
   refine QAt.val (Val.indexRow (i := 5) (i * 3) (by omega) Try.underlying44 Try.sizeOf74 rfl rfl rfl (by omega) (by omega)) rfl rfl rfl ?_
   refine QAt.val (Val.field ((i * 3 + 2)) rfl fo_74_2 rfl) rfl rfl rfl ?_
   refine QAt.val (Val.loadRow (i := 5) (u := (.slice ax xn.length cx)) Try.isAgg66 rfl rfl (dC_at (j := i) (i := 2) (c := ((_, _, xn), (.slice ax xn.length cx))) (by rw [List.getElem?_append_right (by omega), show i - D.length = 0 from by omega]; rfl) rfl)) rfl rfl rfl ?_
   refine qM rfl rfl ?_
   refine qM rfl rfl ?_
   refine qM rfl rfl ?_
   refine qM rfl rfl ?_
   refine QAt.callP (fun w hw => newsMark_p m i q w hm (by omega) (by omega)) Try.call28 rfl rfl ?_
   refine QAt.val (Val.indexRow (i := 0) q (by omega) Try.underlying66 Try.sizeOf32 rfl rfl rfl (by omega) (by omega)) rfl rfl rfl ?_
   refine QAt.fin ?_
   refine At.storeRow (i := 0) (q := q) Try.sizeOf32 rfl rfl rfl rfl (by rw [List.length_map, wrN_len (by omega)]; omega) ?_
   simp only [sc0, scS]
   rw [wrN_set (by omega)]
   refine At.nil ?_
   refine At.blkN ?_
   refine At.thenN ?_
   refine At.region ?_
   refine tM rfl rfl ?_
   first | refine At.val (Val.addI rfl rfl (by omega) (by omega)) rfl rfl rfl ?_ | refine At.val (Val.bin rfl rfl rfl) rfl rfl rfl ?_
   refine tA rfl rfl ?_
   refine tE ?_
   exact At.again (q + 1) (show q + 1 ≤ _ by omega) (by omega) (Sub.cons rfl (Sub.cons rfl (Sub.cons rfl (Sub.cons rfl (Sub.cons rfl (Sub.cons (congrArg (fun z => some (Value.int IntKind.i64 z)) (by omega)) Sub.nil)))))) (List.Perm.refl _)
  ·skip
   try simp only [hasB, isSizeB, Bool.not_eq_true', Bool.not_eq_false', bne_iff_ne, ne_eq, bne_eq_false_iff_eq, beq_iff_eq, beq_eq_false_iff_ne, decide_eq_true_eq, decide_eq_false_iff_not, gt_iff_lt, ge_iff_le] at h6
   have hqe : q = xn.length := by omega
   subst hqe
   rw [wrN_all]
   refine At.starSnoc 0 0 (L := newsR D) rfl rfl ?_
   simp only [ec0, ecS]
   simp only [sc0, scS]
   rw [dC_news (n' := mks m i xn.length)]
   refine At.exitC ?_
   refine At.thenX ?_
   refine At.thenX ?_
   refine At.blkX ?_
   refine At.blkN ?_
   refine At.thenN ?_
   refine At.region ?_
   refine tM rfl rfl ?_
   first | refine At.val (Val.addI rfl rfl (by omega) (by omega)) rfl rfl rfl ?_ | refine At.val (Val.bin rfl rfl rfl) rfl rfl rfl ?_
   refine tA rfl rfl ?_
   refine tE ?_
   exact At.again (i + 1, D ++ [((-1000 * (m : Int) - (i : Int) - 1, BitVec.ofNat 64 (1000 * m + i), mks m i xn.length), .slice ax xn.length cx)], T', v5) ⟨(show i + 1 ≤ _ by omega), by rw [List.length_append, hD]; rfl, by rw [← hDT]; simp; try omega, mk_snoc hmk hD, fun x hx => htl x (List.mem_cons_of_mem _ hx)⟩ (by dsimp only; omega) (Sub.cons rfl (Sub.cons rfl (Sub.cons rfl (Sub.cons rfl (Sub.cons (congrArg (fun z => some (Value.int IntKind.i64 z)) (by omega)) Sub.nil))))) (by dsimp only; rw [newsR_mk, List.map_append, List.length_append, List.append_assoc]; exact List.Perm.refl _)
 ·skip
  try simp only [hasB, isSizeB, Bool.not_eq_true', Bool.not_eq_false', bne_iff_ne, ne_eq, bne_eq_false_iff_eq, beq_iff_eq, beq_eq_false_iff_ne, decide_eq_true_eq, decide_eq_false_iff_not, gt_iff_lt, ge_iff_le] at h3
  have hie : i = Q.length := by omega
  have hT : T = [] := by rw [List.length_append] at hDT; exact List.eq_nil_of_length_eq_zero (by omega)
  subst hT
  rw [List.append_nil] at hDT
  simp only [List.append_nil]
  refine At.drop 5 ?_
  simp only [ec0, ecS]
  subst hie
  refine At.exitC ?_
  refine At.thenX ?_
  refine At.thenX ?_
  refine At.blkX ?_
  refine At.thenN ?_
  refine At.seq ?_
  refine At.seq ?_
  refine At.rowNil 66 1 ?_
  refine At.readsNil ?_
  refine At.region ?_
  refine tA rfl rfl ?_
  refine tE ?_
  refine At.block ?_
  skip
  refine At.loop (σ := Nat × List RdF × Value × List Value) (fun s => s.1 ≤ Q.length ∧ s.2.2.2.length = s.1 ∧ (∀ k x, k < s.1 → D[k]? = some x → fN x ∈ s.2.1) ∧ (∀ (k : Nat) (x : Dq) (a : Value), D[k]? = some x → s.2.2.2[k]? = some a → fA m x a ∈ s.2.1)) (fun s => [(0, (.slice A Q.length ca)), (1, .int .i64 (m : Int)), (4, .pointer (some ⟨b1, 0, none⟩)), (5, .pointer (some ⟨b2, 0, none⟩)), (8, .int .i64 (s.1 : Int))]) (fun s => [readsR s.2.1, rowR s.2.2.1 66 1 (s.2.2.2.length) (s.2.2.2), star (newsR (D.drop s.1)), rowR vn 66 1 (D.length) (D.map Prod.snd), blk b2 47 ([(.slice A Q.length ca), Value.slice none 0 0, vn, s.2.2.1, Value.int .i64 (m : Int)]), blk b1 47 ([Value.slice none 0 0, Value.slice none 0 0, Value.slice none 0 0, Value.slice none 0 0, Value.int .i64 0]), rowR (.slice A Q.length ca) 74 3 (Q.length) (dC (D))]) (fun s => Q.length - s.1) (0, [], .slice none 0 0, []) ⟨Nat.zero_le _, rfl, (fun k x h => by omega), (fun k x a _ h => by cases h)⟩ (Sub.cons rfl (Sub.cons rfl (Sub.cons rfl (Sub.cons rfl (Sub.cons rfl Sub.nil))))) (List.Perm.refl _) ?_
  intro s hs
  obtain ⟨i, F, va, avs⟩ := s
  dsimp only at hs ⊢
  obtain ⟨hi, hav, hfn, hfa⟩ := hs
  refine At.seq ?_
  refine tR ?_
  refine tM rfl rfl ?_
  refine tM rfl rfl ?_
  refine At.val (Val.len (bt := #[]) Try.underlying44 rfl) rfl rfl rfl ?_
  refine At.val (Val.bin rfl rfl rfl) rfl rfl rfl ?_
  refine tE ?_
  refine At.cond rfl (fun h7 => ?_) (fun h7 => ?_)
  ·skip
   try simp only [hasB, isSizeB, Bool.not_eq_true', Bool.not_eq_false', bne_iff_ne, ne_eq, bne_eq_false_iff_eq, beq_iff_eq, beq_eq_false_iff_ne, decide_eq_true_eq, decide_eq_false_iff_not, gt_iff_lt, ge_iff_le] at h7
   obtain ⟨⟨⟨xa, xo, xn⟩, xv⟩, hx⟩ : ∃ x, D[i]? = some x := ⟨_, List.getElem?_eq_getElem (by omega)⟩
   have hmx := hmk i _ hx
   have hxl : xn.length ≤ 1000000 := hmx.2.2.2
   have hdr : D.drop i = ((xa, xo, xn), xv) :: D.drop (i + 1) := by rw [List.drop_eq_getElem_cons (by omega), Option.some.inj ((List.getElem?_eq_getElem (by omega)).symm.trans hx)]
   rw [hdr]
   refine At.starHead (r := wrow 32 xv xn) (L := newsR (D.drop (i + 1))) 2 rfl ?_
   simp only [sc0, scS]
   refine At.rowIs (i := 0) rfl (fun ax cx hv => ?_)
   subst hv
   refine At.rowTail 0 rfl (by decide) ?_
   simp only [sc0, scS]
   refine At.skipC ?_
   refine At.thenN ?_
   refine At.seq ?_
   refine At.block ?_
   apply At.any (t := 21)
   · rfl
   refine KAt.pin (fun w hw => hw.drop (List.Sublist.cons _ (List.Sublist.cons _ (List.Sublist.cons _ (List.Sublist.cons _ (List.Sublist.cons_cons _ (List.Sublist.cons_cons _ (List.Sublist.cons_cons _ (List.Sublist.cons _ (List.Sublist.refl _)))))))))) ?_
   refine KAt.take 0 (Val.field 3 rfl fo_47_3 rfl) rfl rfl rfl rfl (fun w hw => hw.drop (List.Sublist.cons _ (List.Sublist.cons _ (List.Sublist.cons _ (List.Sublist.cons _ (List.Sublist.cons_cons _ (List.Sublist.cons_cons _ (List.Sublist.cons_cons _ (List.Sublist.cons _ (List.Sublist.refl _)))))))))) (by decide +kernel) ?_
   refine KAt.take 1 (Val.load (i := 1) Try.isAgg45 rfl rfl rfl) rfl rfl rfl rfl (fun w hw => hw.drop (List.Sublist.cons _ (List.Sublist.cons _ (List.Sublist.cons _ (List.Sublist.cons _ (List.Sublist.cons_cons _ (List.Sublist.cons_cons _ (List.Sublist.cons_cons _ (List.Sublist.cons _ (List.Sublist.refl _)))))))))) (by decide +kernel) ?_
   refine KAt.take 2 (Val.field 2 rfl fo_47_2 rfl) rfl rfl rfl rfl (fun w hw => hw.drop (List.Sublist.cons _ (List.Sublist.cons _ (List.Sublist.cons _ (List.Sublist.cons _ (List.Sublist.cons_cons _ (List.Sublist.cons_cons _ (List.Sublist.cons_cons _ (List.Sublist.cons _ (List.Sublist.refl _)))))))))) (by decide +kernel) ?_
   refine KAt.take 3 (Val.load (i := 1) Try.isAgg45 rfl rfl rfl) rfl rfl rfl rfl (fun w hw => hw.drop (List.Sublist.cons _ (List.Sublist.cons _ (List.Sublist.cons _ (List.Sublist.cons _ (List.Sublist.cons_cons _ (List.Sublist.cons_cons _ (List.Sublist.cons_cons _ (List.Sublist.cons _ (List.Sublist.refl _)))))))))) (by decide +kernel) ?_
   refine KAt.take 4 (Val.move rfl) rfl rfl rfl rfl (fun w hw => hw.drop (List.Sublist.cons _ (List.Sublist.cons _ (List.Sublist.cons _ (List.Sublist.cons _ (List.Sublist.cons_cons _ (List.Sublist.cons_cons _ (List.Sublist.cons_cons _ (List.Sublist.cons _ (List.Sublist.refl _)))))))))) (by decide +kernel) ?_
   refine KAt.take 5 (Val.indexRow (i := 0) i (by omega) Try.underlying45 Try.sizeOf66 rfl rfl rfl (by omega) (by omega)) rfl rfl rfl rfl (fun w hw => hw.drop (List.Sublist.cons _ (List.Sublist.cons _ (List.Sublist.cons _ (List.Sublist.cons _ (List.Sublist.cons_cons _ (List.Sublist.cons_cons _ (List.Sublist.cons_cons _ (List.Sublist.cons _ (List.Sublist.refl _)))))))))) (by decide +kernel) ?_
   refine KAt.take 6 (Val.loadRow (i := 0) (u := (.slice ax xn.length cx)) Try.isAgg66 rfl rfl (by rw [List.getElem?_map, hx]; rfl)) rfl rfl rfl rfl (fun w hw => hw.drop (List.Sublist.cons _ (List.Sublist.cons _ (List.Sublist.cons _ (List.Sublist.cons _ (List.Sublist.cons_cons _ (List.Sublist.cons_cons _ (List.Sublist.cons_cons _ (List.Sublist.cons _ (List.Sublist.refl _)))))))))) (by decide +kernel) ?_
   refine KAt.take 7 (Val.move rfl) rfl rfl rfl rfl (fun w hw => hw.drop (List.Sublist.cons _ (List.Sublist.cons _ (List.Sublist.cons _ (List.Sublist.cons _ (List.Sublist.cons_cons _ (List.Sublist.cons_cons _ (List.Sublist.cons_cons _ (List.Sublist.cons _ (List.Sublist.refl _)))))))))) (by decide +kernel) ?_
   first | refine KAt.take 8 (Val.addI rfl rfl (by omega) (by omega)) rfl rfl rfl rfl (fun w hw => hw.drop (List.Sublist.cons _ (List.Sublist.cons _ (List.Sublist.cons _ (List.Sublist.cons _ (List.Sublist.cons_cons _ (List.Sublist.cons_cons _ (List.Sublist.cons_cons _ (List.Sublist.cons _ (List.Sublist.refl _)))))))))) (by decide +kernel) ?_ | refine KAt.take 8 (Val.bin rfl rfl rfl) rfl rfl rfl rfl (fun w hw => hw.drop (List.Sublist.cons _ (List.Sublist.cons _ (List.Sublist.cons _ (List.Sublist.cons _ (List.Sublist.cons_cons _ (List.Sublist.cons_cons _ (List.Sublist.cons_cons _ (List.Sublist.cons _ (List.Sublist.refl _)))))))))) (by decide +kernel) ?_
   refine KAt.take 9 (Val.toU Try.underlying3 Try.underlying32 rfl (by omega) (by omega)) rfl rfl rfl rfl (fun w hw => hw.drop (List.Sublist.cons _ (List.Sublist.cons _ (List.Sublist.cons _ (List.Sublist.cons _ (List.Sublist.cons_cons _ (List.Sublist.cons_cons _ (List.Sublist.cons_cons _ (List.Sublist.cons _ (List.Sublist.refl _)))))))))) (by decide +kernel) ?_
   rw [show Value.int .u64 (7 + (m : Int)) = b64 (BitVec.ofNat 64 (7 + m)) from by rw [b64, ofN_int (by omega)] <;> rfl]
   refine KAt.take 10 (Val.move rfl) rfl rfl rfl rfl (fun w hw => hw.drop (List.Sublist.cons _ (List.Sublist.cons _ (List.Sublist.cons _ (List.Sublist.cons _ (List.Sublist.cons_cons _ (List.Sublist.cons_cons _ (List.Sublist.cons_cons _ (List.Sublist.cons _ (List.Sublist.refl _)))))))))) (by decide +kernel) ?_
   first | refine KAt.take 11 (Val.addI rfl rfl (by omega) (by omega)) rfl rfl rfl rfl (fun w hw => hw.drop (List.Sublist.cons _ (List.Sublist.cons _ (List.Sublist.cons _ (List.Sublist.cons _ (List.Sublist.cons_cons _ (List.Sublist.cons_cons _ (List.Sublist.cons_cons _ (List.Sublist.cons _ (List.Sublist.refl _)))))))))) (by decide +kernel) ?_ | refine KAt.take 11 (Val.bin rfl rfl rfl) rfl rfl rfl rfl (fun w hw => hw.drop (List.Sublist.cons _ (List.Sublist.cons _ (List.Sublist.cons _ (List.Sublist.cons _ (List.Sublist.cons_cons _ (List.Sublist.cons_cons _ (List.Sublist.cons_cons _ (List.Sublist.cons _ (List.Sublist.refl _)))))))))) (by decide +kernel) ?_
   refine KAt.take 12 (Val.toU Try.underlying3 Try.underlying32 rfl (by omega) (by omega)) rfl rfl rfl rfl (fun w hw => hw.drop (List.Sublist.cons _ (List.Sublist.cons _ (List.Sublist.cons _ (List.Sublist.cons _ (List.Sublist.cons_cons _ (List.Sublist.cons_cons _ (List.Sublist.cons_cons _ (List.Sublist.cons _ (List.Sublist.refl _)))))))))) (by decide +kernel) ?_
   rw [show Value.int .u64 (8 + (m : Int)) = b64 (BitVec.ofNat 64 (8 + m)) from by rw [b64, ofN_int (by omega)] <;> rfl]
   refine KAt.take 13 (Val.move rfl) rfl rfl rfl rfl (fun w hw => hw.drop (List.Sublist.cons _ (List.Sublist.cons _ (List.Sublist.cons _ (List.Sublist.cons _ (List.Sublist.cons_cons _ (List.Sublist.cons_cons _ (List.Sublist.cons_cons _ (List.Sublist.cons _ (List.Sublist.refl _)))))))))) (by decide +kernel) ?_
   first | refine KAt.take 14 (Val.addI rfl rfl (by omega) (by omega)) rfl rfl rfl rfl (fun w hw => hw.drop (List.Sublist.cons _ (List.Sublist.cons _ (List.Sublist.cons _ (List.Sublist.cons _ (List.Sublist.cons_cons _ (List.Sublist.cons_cons _ (List.Sublist.cons_cons _ (List.Sublist.cons _ (List.Sublist.refl _)))))))))) (by decide +kernel) ?_ | refine KAt.take 14 (Val.bin rfl rfl rfl) rfl rfl rfl rfl (fun w hw => hw.drop (List.Sublist.cons _ (List.Sublist.cons _ (List.Sublist.cons _ (List.Sublist.cons _ (List.Sublist.cons_cons _ (List.Sublist.cons_cons _ (List.Sublist.cons_cons _ (List.Sublist.cons _ (List.Sublist.refl _)))))))))) (by decide +kernel) ?_
   refine KAt.take 15 (Val.toU Try.underlying3 Try.underlying32 rfl (by omega) (by omega)) rfl rfl rfl rfl (fun w hw => hw.drop (List.Sublist.cons _ (List.Sublist.cons _ (List.Sublist.cons _ (List.Sublist.cons _ (List.Sublist.cons_cons _ (List.Sublist.cons_cons _ (List.Sublist.cons_cons _ (List.Sublist.cons _ (List.Sublist.refl _)))))))))) (by decide +kernel) ?_
   rw [show Value.int .u64 (9 + (m : Int)) = b64 (BitVec.ofNat 64 (9 + m)) from by rw [b64, ofN_int (by omega)] <;> rfl]
   refine KAt.only 16 rfl (by decide +kernel) ?_
   refine At.buildSl (fun a ha => by simp only [List.map_toArray, List.map_cons, List.map_nil, ha.eval (x := (.tmp 83)) rfl, ha.eval (x := (.tmp 86)) rfl, ha.eval (x := (.tmp 89)) rfl]; try rfl) (bs_66_3 _ _ _ ) rfl (fun b8 => ?_)
   refine At.nil ?_
   refine KAt.go (fun w hw => hw.drop (List.Sublist.cons _ (List.Sublist.cons _ (List.Sublist.cons _ (List.Sublist.cons _ (List.Sublist.cons _ (List.Sublist.cons_cons _ (List.Sublist.cons_cons _ (List.Sublist.cons_cons _ (List.Sublist.cons _ (List.Sublist.refl _))))))))))) ?_
   refine KAt.only 17 rfl (by decide +kernel) ?_
   refine At.appendT (i := 1) (by_ := 8) (ys := (ext m).map b64) Try.underlying66 info_32 rfl rfl rfl rfl rfl rfl rfl rfl rfl (fun w hw j u hj => by rw [Nat.zero_add]; exact ((hw.blk (i := 0) rfl).cell j).trans hj) (by simp [Value.oneCell', ext, b64]) (by omega) (by omega) rfl (fun v9 => ?_)
   simp only [sc0, scS]
   refine At.drop 0 ?_
   simp only [ec0, ecS]
   refine At.tailIs 0 rfl (fun ab cb hv => ?_)
   subst hv
   refine At.tailEnd 0 rfl (by decide) ?_
   simp only [sc0, scS]
   refine At.joinAt 0 0 rfl rfl ?_
   simp only [ec0, ecS]
   simp only [sc0, scS]
   refine At.nil ?_
   refine KAt.go (fun w hw => hw.drop (List.Sublist.cons _ (List.Sublist.cons _ (List.Sublist.cons _ (List.Sublist.cons_cons _ (List.Sublist.cons_cons _ (List.Sublist.cons_cons _ (List.Sublist.cons _ (List.Sublist.refl _))))))))) ?_
   refine KAt.only 18 rfl (by decide +kernel) ?_
   refine At.buildSl (fun a ha => by simp only [List.map_toArray, List.map_cons, List.map_nil, ha.eval (x := (.tmp 91)) rfl]; try rfl) (bs_45_1 _ _ _ ) rfl (fun b10 => ?_)
   refine At.nil ?_
   refine KAt.go (fun w hw => hw.drop (List.Sublist.cons _ (List.Sublist.cons _ (List.Sublist.cons _ (List.Sublist.cons _ (List.Sublist.cons_cons _ (List.Sublist.cons_cons _ (List.Sublist.cons_cons _ (List.Sublist.cons _ (List.Sublist.refl _)))))))))) ?_
   refine KAt.only 19 rfl (by decide +kernel) ?_
   refine At.append (i := 2) (sz := 1) (by_ := 24) (ys := [(.slice ab (xn.length + 3) cb)]) Try.underlying45 info_66 rfl rfl rfl rfl rfl rfl rfl rfl rfl (fun w hw j u hj => by rw [Nat.zero_add]; exact ((hw.blk (i := 0) rfl).cell j).trans hj) (by simp [Value.oneCell']) (by omega) (by omega) rfl (fun v11 => ?_)
   simp only [sc0, scS]
   refine At.nil ?_
   refine KAt.go (fun w hw => hw.drop (List.Sublist.cons _ (List.Sublist.cons _ (List.Sublist.cons _ (List.Sublist.cons _ (List.Sublist.cons_cons _ (List.Sublist.cons_cons _ (List.Sublist.cons_cons _ (List.Sublist.cons _ (List.Sublist.refl _)))))))))) ?_
   refine KAt.take 20 (Val.field 3 rfl fo_47_3 rfl) rfl rfl rfl rfl (fun w hw => hw.drop (List.Sublist.cons _ (List.Sublist.cons _ (List.Sublist.cons _ (List.Sublist.cons _ (List.Sublist.cons_cons _ (List.Sublist.cons_cons _ (List.Sublist.cons_cons _ (List.Sublist.cons _ (List.Sublist.refl _)))))))))) (by decide +kernel) ?_
   refine KAt.only 21 rfl (by decide +kernel) ?_
   refine At.rowOne (i := 2) rfl (fun h1c => ?_)
   refine At.store (i := 5) Try.sizeOf45 rfl rfl h1c rfl (by simp) ?_
   simp only [sc0, scS]
   refine At.drop 0 ?_
   simp only [ec0, ecS]
   refine At.nil ?_
   refine KAt.goT rfl ?_
   refine KAt.done (by decide +kernel) ?_
   refine At.blkN ?_
   refine At.thenN ?_
   refine At.region ?_
   refine tM rfl rfl ?_
   first | refine At.val (Val.addI rfl rfl (by omega) (by omega)) rfl rfl rfl ?_ | refine At.val (Val.bin rfl rfl rfl) rfl rfl rfl ?_
   refine tA rfl rfl ?_
   refine tE ?_
   exact At.again (i + 1, [⟨.slice ab (xn.length + 3) cb, 1, xn.length + 3, xn.map b64 ++ (ext m).map b64⟩, ⟨(.slice ax xn.length cx), 1, xn.length, xn.map b64⟩] ++ F, v11, avs ++ [.slice ab (xn.length + 3) cb]) ⟨(show i + 1 ≤ _ by omega), by rw [List.length_append, hav]; rfl, fn_snoc hfn hx, fa_snoc hfa hav hx⟩ (by dsimp only; omega) (Sub.cons rfl (Sub.cons rfl (Sub.cons rfl (Sub.cons rfl (Sub.cons (congrArg (fun z => some (Value.int IntKind.i64 z)) (by omega)) Sub.nil))))) (by dsimp only; rw [List.length_append]; exact List.Perm.refl _)
  ·skip
   try simp only [hasB, isSizeB, Bool.not_eq_true', Bool.not_eq_false', bne_iff_ne, ne_eq, bne_eq_false_iff_eq, beq_iff_eq, beq_eq_false_iff_ne, decide_eq_true_eq, decide_eq_false_iff_not, gt_iff_lt, ge_iff_le] at h7
   have hie2 : i = Q.length := by omega
   subst hie2
   refine At.exitC ?_
   refine At.thenX ?_
   refine At.thenX ?_
   refine At.blkX ?_
   refine At.thenN ?_
   refine tR ?_
   refine tM rfl rfl ?_
   refine At.val (Val.field 1 rfl fo_47_1 rfl) rfl rfl rfl ?_
   refine At.store (i := 4) Try.sizeOf44 rfl rfl rfl rfl (by simp) ?_
   simp only [sc0, scS]
   refine tE ?_
   refine At.seq ?_
   refine At.seq ?_
   refine At.rowTail 6 rfl (by decide) ?_
   simp only [sc0, scS]
   refine At.drop 2 ?_
   simp only [ec0, ecS]
   refine At.region ?_
   refine tA rfl rfl ?_
   refine tE ?_
   refine At.block ?_
   skip
   refine At.loop (σ := Nat × Value) (fun s => s.1 ≤ 3) (fun s => [(0, (.slice A Q.length ca)), (1, .int .i64 (m : Int)), (4, .pointer (some ⟨b1, 0, none⟩)), (5, .pointer (some ⟨b2, 0, none⟩)), (9, .int .i64 (s.1 : Int))]) (fun s => [readsR F, rowR va 66 1 (avs.length) (avs), rowR vn 66 1 (D.length) (D.map Prod.snd), blk b2 47 ([(.slice A Q.length ca), s.2, vn, va, Value.int .i64 (m : Int)]), blk b1 47 ([Value.slice none 0 0, Value.slice none 0 0, Value.slice none 0 0, Value.slice none 0 0, Value.int .i64 0]), tailR [⟨(.slice A Q.length ca), 3, Q.length, dC D⟩] s.2 74 3 (Q.length + s.1) (dC D ++ moreM m s.1)]) (fun s => 3 - s.1) (0, (.slice A Q.length ca)) (Nat.zero_le _) (Sub.cons rfl (Sub.cons rfl (Sub.cons rfl (Sub.cons rfl (Sub.cons rfl Sub.nil))))) (by dsimp only; rw [show moreM m 0 = [] from rfl, List.append_nil]; exact List.Perm.refl _) ?_
   intro s hs
   obtain ⟨k, vg⟩ := s
   dsimp only at hs ⊢
   refine At.seq ?_
   refine tR ?_
   refine tM rfl rfl ?_
   refine At.val (Val.bin rfl rfl rfl) rfl rfl rfl ?_
   refine tE ?_
   refine At.cond rfl (fun h12 => ?_) (fun h12 => ?_)
   ·skip
    try simp only [hasB, isSizeB, Bool.not_eq_true', Bool.not_eq_false', bne_iff_ne, ne_eq, bne_eq_false_iff_eq, beq_iff_eq, beq_eq_false_iff_ne, decide_eq_true_eq, decide_eq_false_iff_not, gt_iff_lt, ge_iff_le] at h12
    refine At.skipC ?_
    refine At.thenN ?_
    refine At.seq ?_
    refine At.block ?_
    refine At.region ?_
    refine At.val (Val.field 1 rfl fo_47_1 rfl) rfl rfl rfl ?_
    refine At.val (Val.load (i := 3) Try.isAgg44 rfl rfl rfl) rfl rfl rfl ?_
    refine tM rfl rfl ?_
    refine At.val (Val.neg rfl) rfl rfl rfl ?_
    rw [wrap_i64 (n := 0 - (m : Int)) (by omega) (by omega)]
    first | refine At.val (Val.subI rfl rfl (by omega) (by omega)) rfl rfl rfl ?_ | refine At.val (Val.bin rfl rfl rfl) rfl rfl rfl ?_
    refine tM rfl rfl ?_
    refine At.val (Val.toU Try.underlying3 Try.underlying32 rfl (by omega) (by omega)) rfl rfl rfl ?_
    rw [show Value.int .u64 ((m : Int)) = b64 (BitVec.ofNat 64 (m)) from by rw [b64, ofN_int (by omega)] <;> rfl]
    refine At.val (Val.build (fun a ha => by simp only [List.map_toArray, List.map_cons, List.map_nil, ha.eval (x := (.tmp 105)) rfl, ha.eval (x := (.tmp 107)) rfl] <;> rfl) (bld_74_0_1 _ _ )) rfl rfl rfl ?_
    refine At.buildSl (fun a ha => by simp only [List.map_toArray, List.map_cons, List.map_nil, ha.eval (x := (.tmp 108)) rfl]; try rfl) (bs_44_1 _ _ _ _ _ ) rfl (fun b13 => ?_)
    refine At.appendT (i := 6) (by_ := 40) (ys := oneM m) Try.underlying44 info_74 rfl rfl rfl rfl rfl rfl rfl rfl rfl (fun w hw j u hj => by rw [Nat.zero_add]; exact ((hw.blk (i := 0) rfl).cell j).trans hj) (by simp [Value.oneCell', oneM, b64]) (by omega) (by omega) rfl (fun v14 => ?_)
    simp only [sc0, scS]
    refine At.drop 0 ?_
    simp only [ec0, ecS]
    refine At.val (Val.field 1 rfl fo_47_1 rfl) rfl rfl rfl ?_
    refine At.tailOne 5 rfl (fun h1c => ?_)
    refine At.store (i := 3) Try.sizeOf44 rfl rfl h1c rfl (by simp) ?_
    simp only [sc0, scS]
    refine At.nil ?_
    refine At.blkN ?_
    refine At.thenN ?_
    refine At.region ?_
    refine tM rfl rfl ?_
    first | refine At.val (Val.addI rfl rfl (by omega) (by omega)) rfl rfl rfl ?_ | refine At.val (Val.bin rfl rfl rfl) rfl rfl rfl ?_
    refine tA rfl rfl ?_
    refine tE ?_
    exact At.again (k + 1, v14) (show k + 1 ≤ 3 by omega) (by dsimp only; omega) (Sub.cons rfl (Sub.cons rfl (Sub.cons rfl (Sub.cons rfl (Sub.cons (congrArg (fun z => some (Value.int IntKind.i64 z)) (by omega)) Sub.nil))))) (by dsimp only; rw [← more_snoc, ← List.append_assoc]; exact List.Perm.refl _)
   ·skip
    try simp only [hasB, isSizeB, Bool.not_eq_true', Bool.not_eq_false', bne_iff_ne, ne_eq, bne_eq_false_iff_eq, beq_iff_eq, beq_eq_false_iff_ne, decide_eq_true_eq, decide_eq_false_iff_not, gt_iff_lt, ge_iff_le] at h12
    refine At.exitC ?_
    refine At.thenX ?_
    refine At.thenX ?_
    refine At.blkX ?_
    refine At.thenN ?_
    refine At.seq ?_
    have hk3 : k = 3 := by omega
    subst hk3
    refine At.tailIs 5 rfl (fun ag cg hv => ?_)
    subst hv
    refine At.tailEnd 5 rfl (by decide) ?_
    simp only [sc0, scS]
    refine At.rowIs (i := 2) rfl (fun an can hv => ?_)
    subst hv
    refine At.rowEnd 2 rfl (by decide) ?_
    simp only [sc0, scS]
    refine At.rowIs (i := 1) rfl (fun aw caw hv => ?_)
    subst hv
    refine At.rowEnd 1 rfl (by decide) ?_
    simp only [sc0, scS]
    refine At.joinAt 5 0 rfl rfl ?_
    simp only [ec0, ecS]
    simp only [sc0, scS]
    refine At.joinAt 2 0 rfl rfl ?_
    simp only [ec0, ecS]
    simp only [sc0, scS]
    refine At.joinAt 1 0 rfl rfl ?_
    simp only [ec0, ecS]
    simp only [sc0, scS]
    refine At.region ?_
    refine At.val (Val.loadAll (i := 1) Try.isAgg47 Try.sizeOf47 rfl rfl rfl) rfl rfl rfl ?_
    refine At.storeAll (i := 2) Try.sizeOf47 rfl rfl rfl (by simp [Value.oneCell']) rfl rfl ?_
    simp only [sc0, scS]
    refine tE ?_
    refine At.retC ?_
    refine At.ret1 (.inl rfl) rfl rfl (ResOf.all (i := 2) Try.isAgg47 Try.sizeOf47 rfl rfl rfl) (fun w hw => ?_)
    refine ⟨(⟨(.slice A Q.length ca), _, _, _, m, D, avs⟩, _), rfl, ⟨?_, rfl⟩, hw.drop (List.singleton_sublist.2 (List.mem_of_getElem? (i := 0) rfl))⟩
    exact ⟨hm, by rw [hDT]; exact hK, by rw [hav, hDT], hmk, by rw [hDT]; simp, by rw [hDT]; simp, by simp, by simp [hav, hDT], fun x hx => by obtain ⟨k, hk⟩ := List.getElem?_of_mem hx; have := hfn k x (by rw [← hDT]; exact (List.getElem?_eq_some_iff.1 hk).1) hk; simp [this], fun k x a h1 h2 => by have := hfa k x a h1 h2; simp [this]⟩

end Go.Proofs.Ytgighokkflchmaa
