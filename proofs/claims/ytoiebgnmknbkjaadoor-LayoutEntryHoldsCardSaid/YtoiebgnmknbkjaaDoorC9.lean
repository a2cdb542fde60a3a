/- LayoutSuperHolds, walked. -/
import Derived.Test.YtoiebgnmknbkjaaDoorB22
set_option linter.unusedVariables false
set_option linter.unusedSimpArgs false
namespace Go.Proofs.YtoiebgnmknbkjaaDoor
open Go Go.Wk

theorem num_app {a b : List UInt8} {n x p : Nat} (ha : a.length = p) (hx : x < 256 ^ n) : num (a ++ (le n x ++ b)) p n = x := by
  unfold num
  rw [← ha, List.drop_left, List.take_left' (le_length n x), fromLe_le n x hx]
theorem super_num {p i c : Nat} (hp : p < 256 ^ 4) (hi : i < 256 ^ 4) (hc : c < 256 ^ 4) : num (lineL (superB p i c)) 8 4 = p ∧ num (lineL (superB p i c)) 12 4 = i ∧ num (lineL (superB p i c)) 16 4 = c := by
  rw [lineL_row (by rw [superB_length]; decide)]
  generalize le 4 (sumOn 0 (superB p i c ++ zs (60 - (superB p i c).length))).toNat = s4
  generalize zs (60 - (superB p i c).length) = z
  refine ⟨?_, ?_, ?_⟩
  · exact Eq.trans (congrArg (fun l => num l 8 4) (by simp only [superB, List.append_assoc])) (num_app (a := [70, 85, 82, 82, 79, 87, 48, 49]) (b := le 4 i ++ (le 4 c ++ (z ++ s4))) (p := 8) rfl hp)
  · exact Eq.trans (congrArg (fun l => num l 12 4) (by simp only [superB, List.append_assoc])) (num_app (a := [70, 85, 82, 82, 79, 87, 48, 49] ++ le 4 p) (b := le 4 c ++ (z ++ s4)) (p := 12) (by simp [le_length]) hi)
  · exact Eq.trans (congrArg (fun l => num l 16 4) (by simp only [superB, List.append_assoc])) (num_app (a := [70, 85, 82, 82, 79, 87, 48, 49] ++ le 4 p ++ le 4 i) (b := z ++ s4) (p := 16) (by simp [le_length]) hc)
theorem super_ok {p i c : Int} (hg : GoodSup p i c) : OkSup (lineL (superB p.toNat i.toNat c.toNat)) ∧ ((num (lineL (superB p.toNat i.toNat c.toNat)) 8 4 : Nat) : Int) = p ∧ ((num (lineL (superB p.toNat i.toNat c.toNat)) 12 4 : Nat) : Int) = i ∧ ((num (lineL (superB p.toNat i.toNat c.toNat)) 16 4 : Nat) : Int) = c := by
  have hg' := hg
  unfold GoodSup at hg'
  obtain ⟨h1, h2, h3⟩ := super_num (p := p.toNat) (i := i.toNat) (c := c.toNat) (by omega) (by omega) (by omega)
  have e1 : ((num (lineL (superB p.toNat i.toNat c.toNat)) 8 4 : Nat) : Int) = p := by rw [h1]; omega
  have e2 : ((num (lineL (superB p.toNat i.toNat c.toNat)) 12 4 : Nat) : Int) = i := by rw [h2]; omega
  have e3 : ((num (lineL (superB p.toNat i.toNat c.toNat)) 16 4 : Nat) : Int) = c := by rw [h3]; omega
  exact ⟨⟨by rw [e1, e2, e3]; exact hg, by unfold SupLine; rw [h1, h2, h3]⟩, e1, e2, e3⟩
theorem sup_whole {l : List UInt8} (hl : l.length = 64) (h : OkSup l) : wholeB l = true := ((supLine_iff hl).1 h.2).1
/-- The image, of which k bytes of both lines are laid. -/
def imgK (f s : List UInt8) (n k : Nat) : List UInt8 := fillTo f (zs 64) k ++ (fillTo s (zs 64) k ++ zs n)
theorem img_zero (f s : List UInt8) {n m : Nat} (h : 64 + (64 + n) = m) : imgK f s n 0 = zs m := by unfold imgK; rw [fillTo_zero, fillTo_zero, zs_append, zs_append, h]
theorem img_all {f s : List UInt8} {n : Nat} (hf : f.length = 64) (hs : s.length = 64) : imgK f s n 64 = f ++ (s ++ zs n) := by unfold imgK; rw [fillTo_all hf (zs_length 64), fillTo_all hs (zs_length 64)]
theorem img_length {f s : List UInt8} {n : Nat} (hf : f.length = 64) (hs : s.length = 64) (k : Nat) : (imgK f s n k).length = 128 + n := by
  unfold imgK; rw [List.length_append, List.length_append, fillTo_length (by rw [hf, zs_length]), fillTo_length (by rw [hs, zs_length]), zs_length]; omega
theorem fill_set {f m : List UInt8} {k : Nat} {q : UInt8} (hc : f[k]? = some q) (h : f.length = m.length) : (fillTo f m k).set k q = fillTo f m (k + 1) := by
  have hk : k < f.length := (List.getElem?_eq_some_iff.1 hc).1
  unfold fillTo
  rw [List.set_append_right _ _ (by simp; omega), List.length_take, show min k f.length = k by omega, Nat.sub_self, List.drop_eq_getElem_cons (show k < m.length by omega), List.set_cons_zero, List.take_add_one, hc]
  simp
theorem img_step {f s : List UInt8} {n k : Nat} {q r : UInt8} (hf : f.length = 64) (hs : s.length = 64) (hq : f[k]? = some q) (hr : s[k]? = some r) : ((imgK f s n k).set k q).set (64 + k) r = imgK f s n (k + 1) := by
  have hk : k < f.length := (List.getElem?_eq_some_iff.1 hq).1
  have h1 : (fillTo f (zs 64) k).length = 64 := by rw [fillTo_length (by rw [hf, zs_length]), hf]
  have h2 : (fillTo s (zs 64) k).length = 64 := by rw [fillTo_length (by rw [hs, zs_length]), hs]
  unfold imgK
  rw [List.set_append_left _ _ (by omega), fill_set hq (by rw [hf, zs_length]), List.set_append_right _ _ (by rw [fillTo_length (by rw [hf, zs_length]), hf]; omega), fillTo_length (by rw [hf, zs_length]), hf, show 64 + k - 64 = k by omega, List.set_append_left _ _ (by omega), fill_set hr (by rw [hs, zs_length])]
theorem img_line0 {f s t : List UInt8} (hf : f.length = 64) : lineAt (f ++ (s ++ t)) 0 = f := by unfold lineAt; rw [Nat.mul_zero, List.drop_zero, List.take_left' hf]
theorem img_line1 {f s t : List UInt8} (hf : f.length = 64) (hs : s.length = 64) : lineAt (f ++ (s ++ t)) 1 = s := by unfold lineAt; rw [Nat.mul_one, List.drop_left' hf, List.take_left' hs]
theorem line_take_at {l : List UInt8} {k m : Nat} (h : 64 * k + 64 ≤ m) : lineAt (l.take m) k = lineAt l k := by
  unfold lineAt; rw [List.drop_take, List.take_take]; congr 1; omega
/-- What is found in an image whose lines are a good one, or spoilt ones. -/
theorem find_img {p i c : Int} (hg : GoodSup p i c) {f s : List UInt8} {n : Nat} (hn : 128 + n = 512 * p.toNat) (hf : f.length = 64) (hs : s.length = 64) (h : f = lineL (superB p.toNat i.toNat c.toNat) ∨ (wholeB f = false ∧ s = lineL (superB p.toNat i.toNat c.toNat))) :
    findV (f ++ (s ++ zs n)) = .tuple #[.agg #[.int .i64 p, .int .i64 i, .int .i64 c, .int .i64 (4 + i / 8)], .int .i64 0] := by
  have hg' := hg
  unfold GoodSup at hg'
  obtain ⟨ok, e1, e2, e3⟩ := super_ok hg
  have hlen : (f ++ (s ++ zs n)).length = 512 * p.toNat := by rw [List.length_append, List.length_append, zs_length]; omega
  rcases h with h | ⟨h0, h⟩
  · rw [find_at (k := 0) (by decide) (by omega) ⟨by rw [img_line0 hf, h]; exact ok, by rw [img_line0 hf, hlen, h]; omega⟩ (fun j hj => by omega)]
    unfold fitAt
    rw [img_line0 hf, h, e1, e2, e3, fit_yes hg]
  · rw [find_at (k := 1) (by decide) (by omega) ⟨by rw [img_line1 hf hs, h]; exact ok, by rw [img_line1 hf hs, hlen, h]; omega⟩ (fun j hj => by
      obtain rfl : j = 0 := by omega
      intro q
      have := sup_whole hf (by have := q.1; rwa [img_line0 hf] at this)
      rw [h0] at this; cases this)]
    unfold fitAt
    rw [img_line1 hf hs, h, e1, e2, e3, fit_yes hg]
theorem find_spoilt {f s : List UInt8} {n : Nat} (hf : f.length = 64) (hs : s.length = 64) (h1 : wholeB f = false) (h2 : wholeB s = false) : findV (f ++ (s ++ zs n)) = .tuple #[.agg #[.int .i64 0, .int .i64 0, .int .i64 0, .int .i64 0], .int .i64 31] := by
  refine find_no fun h j hj q => ?_
  rcases (show j = 0 ∨ j = 1 by omega) with rfl | rfl
  · have := sup_whole hf (by have := q.1; rwa [img_line0 hf] at this)
    rw [h1] at this; cases this
  · have := sup_whole hs (by have := q.1; rwa [img_line1 hf hs] at this)
    rw [h2] at this; cases this
/-- .. and in one that is too short. -/
theorem find_short {p i c : Int} (hg : GoodSup p i c) {f s : List UInt8} {n : Nat} (hn : 128 + n = 512 * p.toNat) (hf : f.length = 64) (hs : s.length = 64) (h1 : f = lineL (superB p.toNat i.toNat c.toNat) ∨ wholeB f = false) (h2 : s = lineL (superB p.toNat i.toNat c.toNat) ∨ wholeB s = false) :
    findV ((f ++ (s ++ zs n)).take (512 * p.toNat - 512)) = .tuple #[.agg #[.int .i64 0, .int .i64 0, .int .i64 0, .int .i64 0], .int .i64 31] := by
  have hg' := hg
  unfold GoodSup at hg'
  obtain ⟨ok, e1, e2, e3⟩ := super_ok hg
  have hlen : (f ++ (s ++ zs n)).length = 512 * p.toNat := by rw [List.length_append, List.length_append, zs_length]; omega
  refine find_no fun h j hj q => ?_
  have hq2 := q.2
  rw [List.length_take, hlen, line_take_at (by omega)] at hq2
  have hq1 := q.1
  rw [line_take_at (by omega)] at hq1
  rcases (show j = 0 ∨ j = 1 by omega) with rfl | rfl
  · rw [img_line0 hf] at hq1 hq2
    rcases h1 with h1 | h1
    · rw [h1] at hq2; omega
    · have := sup_whole hf hq1; rw [h1] at this; cases this
  · rw [img_line1 hf hs] at hq1 hq2
    rcases h2 with h2 | h2
    · rw [h2] at hq2; omega
    · have := sup_whole hs hq1; rw [h2] at this; cases this
theorem fz_T {F : BitVec 32} (h : F = 0) : ((F.toNat : Int) == 0) = true := by subst h; rfl
theorem fz_F {F : BitVec 32} (h : ¬ F = 0) : ((F.toNat : Int) == 0) = false := by
  rw [beqF]; intro e; exact h (BitVec.eq_of_toNat_eq (by have : F.toNat = 0 := by omega
                                                         rw [this]; rfl))

theorem lawSH_TT (n0 n1 n2 p r : Int) (F D : BitVec 32) (w : World) (ht : Tab w) (h1 : F = 0) (h2 : D = 0) :
    PureC Tryd.prog 8 [.agg #[.int .i64 n0, .int .i64 n1, .int .i64 n2], .agg #[.int .i64 p, b32 F], .agg #[.int .i64 r, b32 D]] (.bool true) w := by
  refine enter0 Tryd.func8 rfl Tryd.ntmps8 rfl ?_
  have hg := sup_good n0 n1 n2
  have hg' := hg
  unfold GoodSup at hg'
  have ok := super_ok hg
  have hL : (lineL (superB (supP n0 n1).toNat (supI n1).toNat (supC n2).toNat)).length = 64 := lineL_length (by rw [superB_length]; decide)
  have hwh := sup_whole hL ok.1
  have hf1 : (spoilL (lineL (superB (supP n0 n1).toNat (supI n1).toNat (supC n2).toNat)) (0 + p % (512 - 32 - 0 + 1)).toNat F.toNat).length = 64 := by rw [spoilL_length, hL]
  have hf2 : (spoilL (lineL (superB (supP n0 n1).toNat (supI n1).toNat (supC n2).toNat)) (0 + r % (512 - 32 - 0 + 1)).toNat D.toNat).length = 64 := by rw [spoilL_length, hL]
  have himg0 : ((spoilL (lineL (superB (supP n0 n1).toNat (supI n1).toNat (supC n2).toNat)) (0 + p % (512 - 32 - 0 + 1)).toNat F.toNat) ++ ((spoilL (lineL (superB (supP n0 n1).toNat (supI n1).toNat (supC n2).toNat)) (0 + r % (512 - 32 - 0 + 1)).toNat D.toNat) ++ zs (512 * (supP n0 n1).toNat - 128))).length = 512 * (supP n0 n1).toNat := by rw [List.length_append, List.length_append, zs_length, hf1, hf2]; omega
  simp only [envOf]
  refine At.seq ?_
  refine At.region ?_
  refine At.box rfl rfl rfl (fun b1 => ?_)
  refine At.box rfl rfl rfl (fun b2 => ?_)
  refine At.box rfl rfl rfl (fun b3 => ?_)
  refine At.val (Val.assign rfl) rfl rfl rfl ?_
  refine At.nil ?_
  refine At.thenN ?_
  refine At.seq ?_
  refine At.region ?_
  refine At.val (Val.indexArr 0 rfl Tryd.underlying59 Tryd.sizeOf3 rfl rfl (by decide) (by decide)) rfl rfl rfl ?_
  refine At.val (Val.load (i := 2) Tryd.isAgg3 rfl rfl rfl) rfl rfl rfl ?_
  refine At.val (Val.indexArr 1 rfl Tryd.underlying59 Tryd.sizeOf3 rfl rfl (by decide) (by decide)) rfl rfl rfl ?_
  refine At.val (Val.load (i := 2) Tryd.isAgg3 rfl rfl rfl) rfl rfl rfl ?_
  refine At.val (Val.indexArr 2 rfl Tryd.underlying59 Tryd.sizeOf3 rfl rfl (by decide) (by decide)) rfl rfl rfl ?_
  refine At.val (Val.load (i := 2) Tryd.isAgg3 rfl rfl rfl) rfl rfl rfl ?_
  refine At.callP (fun w hw => super_p n0 n1 n2 w) Tryd.call37 rfl rfl ?_
  refine At.alloc Tryd.zeroValue23 rfl rfl (fun b4 => ?_)
  refine At.storeAll (i := 0) Tryd.sizeOf23 rfl rfl rfl (by simp [Value.oneCell']) rfl rfl ?_
  simp only [List.set_cons_zero, List.set_cons_succ]
  refine At.nil ?_
  refine At.thenN ?_
  refine At.seq ?_
  refine At.region ?_
  refine At.val (Val.loadAll (i := 0) Tryd.isAgg23 Tryd.sizeOf23 rfl rfl rfl) rfl rfl rfl ?_
  refine At.callP (fun w hw => (by have := fit_p (supP n0 n1) (supI n1) (supC n2) w; rwa [fit_yes hg] at this)) Tryd.call20 rfl rfl ?_
  refine At.val (Val.move rfl) rfl rfl rfl ?_
  refine At.val (Val.extract rfl rfl) rfl rfl rfl ?_
  refine At.val (Val.extract rfl rfl) rfl rfl rfl ?_
  refine At.alloc Tryd.zeroValue25 rfl rfl (fun b5 => ?_)
  refine At.storeAll (i := 0) Tryd.sizeOf25 rfl rfl rfl (by simp [Value.oneCell']) rfl rfl ?_
  simp only [List.set_cons_zero, List.set_cons_succ]
  refine At.val (Val.assign rfl) rfl rfl rfl ?_
  refine At.nil ?_
  refine At.thenN ?_
  refine At.seq ?_
  refine At.region ?_
  refine At.val (Val.field 0 rfl fo_23_0 rfl) rfl rfl rfl ?_
  refine At.val (Val.load (i := 1) Tryd.isAgg3 rfl rfl rfl) rfl rfl rfl ?_
  refine At.val (Val.field 1 rfl fo_23_1 rfl) rfl rfl rfl ?_
  refine At.val (Val.load (i := 1) Tryd.isAgg3 rfl rfl rfl) rfl rfl rfl ?_
  refine At.val (Val.field 2 rfl fo_23_2 rfl) rfl rfl rfl ?_
  refine At.val (Val.load (i := 1) Tryd.isAgg3 rfl rfl rfl) rfl rfl rfl ?_
  refine At.val (Val.field 1 rfl fo_23_1 rfl) rfl rfl rfl ?_
  refine At.val (Val.load (i := 1) Tryd.isAgg3 rfl rfl rfl) rfl rfl rfl ?_
  first | refine At.val (Val.quoI rfl rfl (by omega) (by omega) (by decide)) rfl rfl rfl ?_ | refine At.val (Val.quo rfl rfl (by decide)) rfl rfl rfl ?_
  first | refine At.val (Val.addI rfl rfl (by omega) (by omega)) rfl rfl rfl ?_ | refine At.val (Val.bin rfl rfl rfl) rfl rfl rfl ?_
  refine At.val (Val.build (fun a ha => by simp only [List.map_toArray, List.map_cons, List.map_nil, ha.eval (x := (.tmp 37)) rfl, ha.eval (x := (.tmp 39)) rfl, ha.eval (x := (.tmp 41)) rfl, ha.eval (x := (.tmp 45)) rfl] <;> rfl) (bld_25_0_1_2_3 _ _ _ _ )) rfl rfl rfl ?_
  refine At.alloc Tryd.zeroValue25 rfl rfl (fun b6 => ?_)
  refine At.storeAll (i := 0) Tryd.sizeOf25 rfl rfl rfl (by simp [Value.oneCell']) rfl rfl ?_
  simp only [List.set_cons_zero, List.set_cons_succ]
  refine At.nil ?_
  refine At.thenN ?_
  refine At.seq ?_
  refine At.seq ?_
  refine At.region ?_
  refine At.val (Val.move rfl) rfl rfl rfl ?_
  refine At.val (Val.bin rfl rfl rfl) rfl rfl rfl ?_
  refine At.val (Val.move rfl) rfl rfl rfl ?_
  refine At.yes rfl rfl ?_
  refine At.val (Val.loadAll (i := 1) Tryd.isAgg25 Tryd.sizeOf25 rfl rfl rfl) rfl rfl rfl ?_
  refine At.yes rfl rfl ?_
  refine At.val (Val.loadAll (i := 0) Tryd.isAgg25 Tryd.sizeOf25 rfl rfl rfl) rfl rfl rfl ?_
  refine At.yes rfl rfl ?_
  refine At.val (Val.neAgg (b := true) Tryd.eqGuardType25 (fun w => by simpa using eq_25 (supP n0 n1) (supI n1) (supC n2) (4 + (supI n1) / 8) (supP n0 n1) (supI n1) (supC n2) (4 + (supI n1) / 8) w) rfl rfl) rfl rfl rfl ?_
  refine At.val (Val.pickF rfl rfl) rfl rfl rfl ?_
  refine At.nil ?_
  refine At.thenN ?_
  refine At.condF rfl ?_
  refine At.skipC ?_
  refine At.thenN ?_
  refine At.seq ?_
  refine At.region ?_
  refine At.val (Val.loadAll (i := 2) Tryd.isAgg23 Tryd.sizeOf23 rfl rfl rfl) rfl rfl rfl ?_
  refine At.callP (fun w hw => (by have := packSup_p (supP n0 n1) (supI n1) (supC n2) w (ht.mod hw.mod); rwa [packSup_yes hg] at this)) Tryd.call22 rfl rfl ?_
  refine At.val (Val.move rfl) rfl rfl rfl ?_
  refine At.val (Val.extract rfl rfl) rfl rfl rfl ?_
  refine At.val (Val.extract rfl rfl) rfl rfl rfl ?_
  refine At.alloc zero_30 zc_30 rfl (fun b7 => ?_)
  refine At.storeAll (i := 0) Tryd.sizeOf30 rfl rfl (by rw [List.length_map]; exact hL) (by simp [Value.oneCell']) rfl (by simp) ?_
  simp only [List.set_cons_zero, List.set_cons_succ]
  refine At.val (Val.assign rfl) rfl rfl rfl ?_
  refine At.nil ?_
  refine At.thenN ?_
  refine At.seq ?_
  refine At.region ?_
  refine At.val (Val.loadAll (i := 0) Tryd.isAgg30 Tryd.sizeOf30 rfl rfl (by rw [List.length_map]; exact hL)) rfl rfl rfl ?_
  refine At.callP (fun w hw => (by have := openSup_p (lineL (superB (supP n0 n1).toNat (supI n1).toNat (supC n2).toNat)) w (ht.mod hw.mod) hL; rwa [openSup_yes ok.1, ok.2.1, ok.2.2.1, ok.2.2.2] at this)) Tryd.call26 rfl rfl ?_
  refine At.val (Val.move rfl) rfl rfl rfl ?_
  refine At.val (Val.extract rfl rfl) rfl rfl rfl ?_
  refine At.val (Val.extract rfl rfl) rfl rfl rfl ?_
  refine At.alloc Tryd.zeroValue23 rfl rfl (fun b8 => ?_)
  refine At.storeAll (i := 0) Tryd.sizeOf23 rfl rfl rfl (by simp [Value.oneCell']) rfl rfl ?_
  simp only [List.set_cons_zero, List.set_cons_succ]
  refine At.val (Val.assign rfl) rfl rfl rfl ?_
  refine At.nil ?_
  refine At.thenN ?_
  refine At.seq ?_
  refine At.seq ?_
  refine At.region ?_
  refine At.val (Val.move rfl) rfl rfl rfl ?_
  refine At.val (Val.bin rfl rfl rfl) rfl rfl rfl ?_
  refine At.val (Val.move rfl) rfl rfl rfl ?_
  refine At.yes rfl rfl ?_
  refine At.val (Val.move rfl) rfl rfl rfl ?_
  refine At.yes rfl rfl ?_
  refine At.val (Val.bin rfl rfl rfl) rfl rfl rfl ?_
  refine At.val (Val.pickF rfl rfl) rfl rfl rfl ?_
  refine At.val (Val.move rfl) rfl rfl rfl ?_
  refine At.yes rfl rfl ?_
  refine At.val (Val.loadAll (i := 0) Tryd.isAgg23 Tryd.sizeOf23 rfl rfl rfl) rfl rfl rfl ?_
  refine At.yes rfl rfl ?_
  refine At.val (Val.loadAll (i := 4) Tryd.isAgg23 Tryd.sizeOf23 rfl rfl rfl) rfl rfl rfl ?_
  refine At.yes rfl rfl ?_
  refine At.val (Val.neAgg (b := true) Tryd.eqGuardType23 (fun w => by simpa using eq_23 (supP n0 n1) (supI n1) (supC n2) (supP n0 n1) (supI n1) (supC n2) w) rfl rfl) rfl rfl rfl ?_
  refine At.val (Val.pickF rfl rfl) rfl rfl rfl ?_
  refine At.nil ?_
  refine At.thenN ?_
  refine At.condF rfl ?_
  refine At.skipC ?_
  refine At.thenN ?_
  refine At.seq ?_
  refine At.region ?_
  refine At.val (Val.field 0 rfl fo_23_0 rfl) rfl rfl rfl ?_
  refine At.val (Val.load (i := 4) Tryd.isAgg3 rfl rfl rfl) rfl rfl rfl ?_
  refine At.val (Val.mulI rfl rfl (by omega) (by omega)) rfl rfl rfl ?_
  rw [show (512 : Int) * (supP n0 n1) = ((512 * (supP n0 n1).toNat : Nat) : Int) from by omega]
  refine At.makeRowB (n := 512 * (supP n0 n1).toNat) Tryd.underlying54 info_5 rfl rfl rfl rfl rfl (by omega) rfl (fun v9 => ?_)
  refine At.val (Val.assign rfl) rfl rfl rfl ?_
  refine At.nil ?_
  refine At.thenN ?_
  refine At.seq ?_
  refine At.region ?_
  refine At.val (Val.loadAll (i := 2) Tryd.isAgg30 Tryd.sizeOf30 rfl rfl (by rw [List.length_map]; exact hL)) rfl rfl rfl ?_
  refine At.callN (fun w hw => bytesOf_n (lineL (superB (supP n0 n1).toNat (supI n1).toNat (supC n2).toNat)) w hL) Tryd.call38 rfl rfl (fun v10 => ?_)
  refine At.val (Val.assign rfl) rfl rfl rfl ?_
  refine At.nil ?_
  refine At.thenN ?_
  refine At.seq ?_
  refine At.region ?_
  refine At.val (Val.move rfl) rfl rfl rfl ?_
  refine At.val (Val.loadAll (i := 8) Tryd.isAgg50 Tryd.sizeOf50 rfl rfl rfl) rfl rfl rfl ?_
  refine At.callN (fun w hw => spoilt_n _ (lineL (superB (supP n0 n1).toNat (supI n1).toNat (supC n2).toNat)) p F 0 512 w (row_rd (hw.row (i := 0) rfl) (by decide)) (by omega) (by decide) (by decide) (by omega)) Tryd.call39 rfl rfl (fun v11 => ?_)
  refine At.val (Val.assign rfl) rfl rfl rfl ?_
  refine At.nil ?_
  refine At.thenN ?_
  refine At.seq ?_
  refine At.region ?_
  refine At.val (Val.move rfl) rfl rfl rfl ?_
  refine At.val (Val.loadAll (i := 8) Tryd.isAgg50 Tryd.sizeOf50 rfl rfl rfl) rfl rfl rfl ?_
  refine At.callN (fun w hw => spoilt_n _ (lineL (superB (supP n0 n1).toNat (supI n1).toNat (supC n2).toNat)) r D 0 512 w (row_rd (hw.row (i := 1) rfl) (by decide)) (by omega) (by decide) (by decide) (by omega)) Tryd.call39 rfl rfl (fun v12 => ?_)
  refine At.val (Val.assign rfl) rfl rfl rfl ?_
  refine At.nil ?_
  refine At.thenN ?_
  refine At.seq ?_
  refine At.seq ?_
  refine At.region ?_
  refine At.val (Val.assign rfl) rfl rfl rfl ?_
  refine At.nil ?_
  refine At.thenN ?_
  refine At.block ?_
  skip
  refine At.drop 11 ?_
  simp only [List.eraseIdx_cons_zero, List.eraseIdx_cons_succ]
  refine At.drop 8 ?_
  simp only [List.eraseIdx_cons_zero, List.eraseIdx_cons_succ]
  refine At.drop 7 ?_
  simp only [List.eraseIdx_cons_zero, List.eraseIdx_cons_succ]
  refine At.drop 5 ?_
  simp only [List.eraseIdx_cons_zero, List.eraseIdx_cons_succ]
  refine At.drop 4 ?_
  simp only [List.eraseIdx_cons_zero, List.eraseIdx_cons_succ]
  refine At.drop 2 ?_
  simp only [List.eraseIdx_cons_zero, List.eraseIdx_cons_succ]
  refine At.loop (σ := Nat) (fun k => k ≤ 64) (fun k => [(4, .pointer (some ⟨b2, 0, none⟩)), (5, .pointer (some ⟨b3, 0, none⟩)), (10, .pointer (some ⟨b6, 0, none⟩)), (15, v9), (17, v11), (18, v12), (19, .int .i64 (k : Int))]) (fun k => [rowR v12 5 1 (((spoilL (lineL (superB (supP n0 n1).toNat (supI n1).toNat (supC n2).toNat)) (0 + r % (512 - 32 - 0 + 1)).toNat D.toNat)).length) (((spoilL (lineL (superB (supP n0 n1).toNat (supI n1).toNat (supC n2).toNat)) (0 + r % (512 - 32 - 0 + 1)).toNat D.toNat)).map bv), rowR v11 5 1 (((spoilL (lineL (superB (supP n0 n1).toNat (supI n1).toNat (supC n2).toNat)) (0 + p % (512 - 32 - 0 + 1)).toNat F.toNat)).length) (((spoilL (lineL (superB (supP n0 n1).toNat (supI n1).toNat (supC n2).toNat)) (0 + p % (512 - 32 - 0 + 1)).toNat F.toNat)).map bv), rowR v9 5 1 ((imgK (spoilL (lineL (superB (supP n0 n1).toNat (supI n1).toNat (supC n2).toNat)) (0 + p % (512 - 32 - 0 + 1)).toNat F.toNat) (spoilL (lineL (superB (supP n0 n1).toNat (supI n1).toNat (supC n2).toNat)) (0 + r % (512 - 32 - 0 + 1)).toNat D.toNat) (512 * (supP n0 n1).toNat - 128) k).length) ((imgK (spoilL (lineL (superB (supP n0 n1).toNat (supI n1).toNat (supC n2).toNat)) (0 + p % (512 - 32 - 0 + 1)).toNat F.toNat) (spoilL (lineL (superB (supP n0 n1).toNat (supI n1).toNat (supC n2).toNat)) (0 + r % (512 - 32 - 0 + 1)).toNat D.toNat) (512 * (supP n0 n1).toNat - 128) k).map bv), blk b6 25 ([.int .i64 (supP n0 n1), .int .i64 (supI n1), .int .i64 (supC n2), .int .i64 (4 + (supI n1) / 8)]), blk b3 50 ([.int .i64 r, b32 D]), blk b2 50 ([.int .i64 p, b32 F])]) (fun k => 64 - k) 0 (by omega) (Sub.cons rfl (Sub.cons rfl (Sub.cons rfl (Sub.cons rfl (Sub.cons rfl (Sub.cons rfl (Sub.cons rfl Sub.nil))))))) (by rw [img_zero (spoilL (lineL (superB (supP n0 n1).toNat (supI n1).toNat (supC n2).toNat)) (0 + p % (512 - 32 - 0 + 1)).toNat F.toNat) (spoilL (lineL (superB (supP n0 n1).toNat (supI n1).toNat (supC n2).toNat)) (0 + r % (512 - 32 - 0 + 1)).toNat D.toNat) (m := 512 * (supP n0 n1).toNat) (by omega)]) ?_
  intro k hs
  refine At.seq ?_
  refine At.seq ?_
  refine At.region ?_
  refine At.val (Val.move rfl) rfl rfl rfl ?_
  refine At.val (Val.bin rfl rfl rfl) rfl rfl rfl ?_
  refine At.nil ?_
  refine At.thenN ?_
  refine At.cond rfl (fun h13 => ?_) (fun h13 => ?_)
  · skip
    try simp only [vN_T, vN_F, nmE_T, nmE_F, wI_T, wI_F, data_T, data_F, ino_T, ino_F, notT, notF, bneT, bneF, beqT, beqF, decT, decF] at h13
    have hk : k < 64 := by omega
    have himg : (imgK (spoilL (lineL (superB (supP n0 n1).toNat (supI n1).toNat (supC n2).toNat)) (0 + p % (512 - 32 - 0 + 1)).toNat F.toNat) (spoilL (lineL (superB (supP n0 n1).toNat (supI n1).toNat (supC n2).toNat)) (0 + r % (512 - 32 - 0 + 1)).toNat D.toNat) (512 * (supP n0 n1).toNat - 128) k).length = 128 + (512 * (supP n0 n1).toNat - 128) := img_length hf1 hf2 k
    refine At.skipC ?_
    refine At.thenN ?_
    refine At.seq ?_
    refine At.block ?_
    refine At.seq ?_
    refine At.region ?_
    refine At.val (Val.move rfl) rfl rfl rfl ?_
    refine At.val (Val.move rfl) rfl rfl rfl ?_
    refine At.val (Val.move rfl) rfl rfl rfl ?_
    refine At.val (Val.move rfl) rfl rfl rfl ?_
    refine At.idxRowB (i := 1) rfl Tryd.underlying54 Tryd.sizeOf5 rfl rfl (by omega) (by omega) rfl rfl (fun q14 hq15 hl16 => ?_)
    refine At.val (Val.loadRowB (i := 1) Tryd.isAgg5 rfl rfl hq15) rfl rfl rfl ?_
    refine At.idxRowB (i := 2) rfl Tryd.underlying54 Tryd.sizeOf5 rfl rfl (by omega) (by omega) rfl rfl (fun q17 hq18 hl19 => ?_)
    refine At.storeRowB (i := 2) Tryd.sizeOf5 rfl rfl rfl (by omega) ?_
    simp only [List.set_cons_zero, List.set_cons_succ]
    rw [show ((k : Nat) : Int).toNat = k from Int.toNat_natCast _]
    have hs1 : ((imgK (spoilL (lineL (superB (supP n0 n1).toNat (supI n1).toNat (supC n2).toNat)) (0 + p % (512 - 32 - 0 + 1)).toNat F.toNat) (spoilL (lineL (superB (supP n0 n1).toNat (supI n1).toNat (supC n2).toNat)) (0 + r % (512 - 32 - 0 + 1)).toNat D.toNat) (512 * (supP n0 n1).toNat - 128) k).set k q14).length = 128 + (512 * (supP n0 n1).toNat - 128) := by rw [List.length_set, himg]
    refine At.nil ?_
    refine At.thenN ?_
    refine At.region ?_
    refine At.val (Val.move rfl) rfl rfl rfl ?_
    refine At.val (Val.move rfl) rfl rfl rfl ?_
    first | refine At.val (Val.addI rfl rfl (by omega) (by omega)) rfl rfl rfl ?_ | refine At.val (Val.bin rfl rfl rfl) rfl rfl rfl ?_
    refine At.val (Val.move rfl) rfl rfl rfl ?_
    refine At.val (Val.move rfl) rfl rfl rfl ?_
    refine At.idxRowB (i := 0) rfl Tryd.underlying54 Tryd.sizeOf5 rfl rfl (by omega) (by omega) rfl rfl (fun q20 hq21 hl22 => ?_)
    refine At.val (Val.loadRowB (i := 0) Tryd.isAgg5 rfl rfl hq21) rfl rfl rfl ?_
    refine At.idxRowB (i := 2) rfl Tryd.underlying54 Tryd.sizeOf5 rfl rfl (by omega) (by omega) rfl rfl (fun q23 hq24 hl25 => ?_)
    refine At.storeRowB (i := 2) Tryd.sizeOf5 rfl rfl rfl (by omega) ?_
    simp only [List.set_cons_zero, List.set_cons_succ]
    rw [show (64 + ((k : Nat) : Int)).toNat = 64 + k from by omega, img_step hf1 hf2 (by have := hq15; rwa [Int.toNat_natCast] at this) (by have := hq21; rwa [Int.toNat_natCast] at this)]
    refine At.nil ?_
    refine At.blkN ?_
    refine At.thenN ?_
    refine At.region ?_
    refine At.val (Val.move rfl) rfl rfl rfl ?_
    first | refine At.val (Val.addI rfl rfl (by omega) (by omega)) rfl rfl rfl ?_ | refine At.val (Val.bin rfl rfl rfl) rfl rfl rfl ?_
    refine At.val (Val.assign rfl) rfl rfl rfl ?_
    refine At.nil ?_
    refine At.thenN ?_
    exact At.again (k + 1) (by omega) (by omega) (Sub.cons rfl (Sub.cons rfl (Sub.cons rfl (Sub.cons rfl (Sub.cons rfl (Sub.cons rfl (Sub.cons (congrArg (fun z => some (Value.int IntKind.i64 z)) (by omega)) Sub.nil))))))) (List.Perm.refl _)
  · skip
    try simp only [vN_T, vN_F, nmE_T, nmE_F, wI_T, wI_F, data_T, data_F, ino_T, ino_F, notT, notF, bneT, bneF, beqT, beqF, decT, decF] at h13
    obtain rfl : k = 64 := by omega
    rw [img_all hf1 hf2]
    refine At.exitC ?_
    refine At.thenX ?_
    refine At.thenX ?_
    refine At.blkX ?_
    refine At.thenN ?_
    refine At.seq ?_
    refine At.region ?_
    refine At.val (Val.move rfl) rfl rfl rfl ?_
    refine At.callP (fun w hw => (by have := findI_p _ ((spoilL (lineL (superB (supP n0 n1).toNat (supI n1).toNat (supC n2).toNat)) (0 + p % (512 - 32 - 0 + 1)).toNat F.toNat) ++ ((spoilL (lineL (superB (supP n0 n1).toNat (supI n1).toNat (supC n2).toNat)) (0 + r % (512 - 32 - 0 + 1)).toNat D.toNat) ++ zs (512 * (supP n0 n1).toNat - 128))) w (ht.mod hw.mod) (row_rd (hw.row (i := 2) rfl) (by decide)) (by rw [himg0]; omega); rwa [find_img hg (by omega) hf1 hf2 (Or.inl (by rw [show F.toNat = 0 from by rw [h1]; rfl, spoilL_zero]))] at this)) Tryd.call34 rfl rfl ?_
    refine At.val (Val.move rfl) rfl rfl rfl ?_
    refine At.val (Val.extract rfl rfl) rfl rfl rfl ?_
    refine At.val (Val.extract rfl rfl) rfl rfl rfl ?_
    refine At.alloc Tryd.zeroValue25 rfl rfl (fun b26 => ?_)
    refine At.storeAll (i := 0) Tryd.sizeOf25 rfl rfl rfl (by simp [Value.oneCell']) rfl rfl ?_
    simp only [List.set_cons_zero, List.set_cons_succ]
    refine At.val (Val.assign rfl) rfl rfl rfl ?_
    refine At.nil ?_
    refine At.thenN ?_
    refine At.seq ?_
    refine At.seq ?_
    refine At.region ?_
    refine At.val (Val.field 1 rfl fo_50_1 rfl) rfl rfl rfl ?_
    refine At.val (Val.load (i := 6) Tryd.isAgg48 rfl rfl rfl) rfl rfl rfl ?_
    refine At.val (Val.bin rfl rfl rfl) rfl rfl rfl ?_
    rw [fz_T h1]
    refine At.val (Val.move rfl) rfl rfl rfl ?_
    refine At.no rfl rfl rfl rfl ?_
    refine At.no rfl rfl rfl rfl ?_
    refine At.no rfl rfl rfl rfl ?_
    refine At.val (Val.pickT rfl rfl) rfl rfl rfl ?_
    refine At.nil ?_
    refine At.thenN ?_
    refine At.condT rfl ?_
    refine At.seq ?_
    refine At.seq ?_
    refine At.region ?_
    refine At.val (Val.move rfl) rfl rfl rfl ?_
    refine At.val (Val.bin rfl rfl rfl) rfl rfl rfl ?_
    refine At.val (Val.move rfl) rfl rfl rfl ?_
    refine At.yes rfl rfl ?_
    refine At.val (Val.loadAll (i := 0) Tryd.isAgg25 Tryd.sizeOf25 rfl rfl rfl) rfl rfl rfl ?_
    refine At.yes rfl rfl ?_
    refine At.val (Val.loadAll (i := 4) Tryd.isAgg25 Tryd.sizeOf25 rfl rfl rfl) rfl rfl rfl ?_
    refine At.yes rfl rfl ?_
    refine At.val (Val.neAgg (b := true) Tryd.eqGuardType25 (fun w => by simpa using eq_25 (supP n0 n1) (supI n1) (supC n2) (4 + (supI n1) / 8) (supP n0 n1) (supI n1) (supC n2) (4 + (supI n1) / 8) w) rfl rfl) rfl rfl rfl ?_
    refine At.val (Val.pickF rfl rfl) rfl rfl rfl ?_
    refine At.nil ?_
    refine At.thenN ?_
    refine At.condF rfl ?_
    refine At.skipC ?_
    refine At.thenN ?_
    refine At.seq ?_
    refine At.region ?_
    refine At.val (Val.move rfl) rfl rfl rfl ?_
    refine At.val (Val.move rfl) rfl rfl rfl ?_
    refine At.val (Val.lenRow (i := 3) Tryd.underlying54 rfl rfl) rfl rfl rfl ?_
    refine At.val (Val.subI rfl rfl (by omega) (by omega)) rfl rfl rfl ?_
    refine At.rowIs (i := 3) rfl (fun A27 c28 hv => ?_)
    subst hv
    refine At.val (Val.cutRow (i := 3) (l := 0) (h := 512 * (supP n0 n1).toNat - 512) rfl (by decide) Tryd.underlying54 Tryd.sizeOf5 rfl rfl ⟨_, _, rfl, by omega, by omega⟩ (by omega) (by omega)) rfl rfl rfl ?_
    refine At.callP (fun w hw => (by have := findI_p _ _ w (ht.mod hw.mod) (RdB.cut (l := 0) (h := 512 * (supP n0 n1).toNat - 512) (row_rd (hw.row (i := 3) rfl) (by decide)) (by omega) (by omega)) (by rw [List.length_take, List.length_drop, himg0]; omega); rwa [show (((spoilL (lineL (superB (supP n0 n1).toNat (supI n1).toNat (supC n2).toNat)) (0 + p % (512 - 32 - 0 + 1)).toNat F.toNat) ++ ((spoilL (lineL (superB (supP n0 n1).toNat (supI n1).toNat (supC n2).toNat)) (0 + r % (512 - 32 - 0 + 1)).toNat D.toNat) ++ zs (512 * (supP n0 n1).toNat - 128))).drop 0).take (512 * (supP n0 n1).toNat - 512 - 0) = ((spoilL (lineL (superB (supP n0 n1).toNat (supI n1).toNat (supC n2).toNat)) (0 + p % (512 - 32 - 0 + 1)).toNat F.toNat) ++ ((spoilL (lineL (superB (supP n0 n1).toNat (supI n1).toNat (supC n2).toNat)) (0 + r % (512 - 32 - 0 + 1)).toNat D.toNat) ++ zs (512 * (supP n0 n1).toNat - 128))).take (512 * (supP n0 n1).toNat - 512) from by rw [List.drop_zero, Nat.sub_zero], find_short hg (by omega) hf1 hf2 (Or.inl (by rw [show F.toNat = 0 from by rw [h1]; rfl, spoilL_zero])) (Or.inl (by rw [show D.toNat = 0 from by rw [h2]; rfl, spoilL_zero]))] at this)) Tryd.call34 rfl rfl ?_
    refine At.val (Val.move rfl) rfl rfl rfl ?_
    refine At.val (Val.extract rfl rfl) rfl rfl rfl ?_
    refine At.val (Val.extract rfl rfl) rfl rfl rfl ?_
    refine At.alloc Tryd.zeroValue25 rfl rfl (fun b29 => ?_)
    refine At.storeAll (i := 0) Tryd.sizeOf25 rfl rfl rfl (by simp [Value.oneCell']) rfl rfl ?_
    simp only [List.set_cons_zero, List.set_cons_succ]
    refine At.val (Val.assign rfl) rfl rfl rfl ?_
    refine At.nil ?_
    refine At.thenN ?_
    refine At.seq ?_
    refine At.region ?_
    refine At.val (Val.move rfl) rfl rfl rfl ?_
    refine At.val (Val.bin rfl rfl rfl) rfl rfl rfl ?_
    refine At.val (Val.assign rfl) rfl rfl rfl ?_
    refine At.nil ?_
    refine At.thenN ?_
    refine At.retC ?_
    refine At.thenR ?_
    refine At.ret1 (.inl rfl) rfl rfl rfl (fun w hw => ?_)
    exact ⟨retB (by first | rfl | simp), hw.mod⟩

theorem lawSH_TF (n0 n1 n2 p r : Int) (F D : BitVec 32) (w : World) (ht : Tab w) (h1 : F = 0) (h2 : ¬ D = 0) :
    PureC Tryd.prog 8 [.agg #[.int .i64 n0, .int .i64 n1, .int .i64 n2], .agg #[.int .i64 p, b32 F], .agg #[.int .i64 r, b32 D]] (.bool true) w := by
  refine enter0 Tryd.func8 rfl Tryd.ntmps8 rfl ?_
  have hg := sup_good n0 n1 n2
  have hg' := hg
  unfold GoodSup at hg'
  have ok := super_ok hg
  have hL : (lineL (superB (supP n0 n1).toNat (supI n1).toNat (supC n2).toNat)).length = 64 := lineL_length (by rw [superB_length]; decide)
  have hwh := sup_whole hL ok.1
  have hf1 : (spoilL (lineL (superB (supP n0 n1).toNat (supI n1).toNat (supC n2).toNat)) (0 + p % (512 - 32 - 0 + 1)).toNat F.toNat).length = 64 := by rw [spoilL_length, hL]
  have hf2 : (spoilL (lineL (superB (supP n0 n1).toNat (supI n1).toNat (supC n2).toNat)) (0 + r % (512 - 32 - 0 + 1)).toNat D.toNat).length = 64 := by rw [spoilL_length, hL]
  have himg0 : ((spoilL (lineL (superB (supP n0 n1).toNat (supI n1).toNat (supC n2).toNat)) (0 + p % (512 - 32 - 0 + 1)).toNat F.toNat) ++ ((spoilL (lineL (superB (supP n0 n1).toNat (supI n1).toNat (supC n2).toNat)) (0 + r % (512 - 32 - 0 + 1)).toNat D.toNat) ++ zs (512 * (supP n0 n1).toNat - 128))).length = 512 * (supP n0 n1).toNat := by rw [List.length_append, List.length_append, zs_length, hf1, hf2]; omega
  have hD32 : D.toNat ≠ 0 := fun e => h2 (BitVec.eq_of_toNat_eq e)
  simp only [envOf]
  refine At.seq ?_
  refine At.region ?_
  refine At.box rfl rfl rfl (fun b1 => ?_)
  refine At.box rfl rfl rfl (fun b2 => ?_)
  refine At.box rfl rfl rfl (fun b3 => ?_)
  refine At.val (Val.assign rfl) rfl rfl rfl ?_
  refine At.nil ?_
  refine At.thenN ?_
  refine At.seq ?_
  refine At.region ?_
  refine At.val (Val.indexArr 0 rfl Tryd.underlying59 Tryd.sizeOf3 rfl rfl (by decide) (by decide)) rfl rfl rfl ?_
  refine At.val (Val.load (i := 2) Tryd.isAgg3 rfl rfl rfl) rfl rfl rfl ?_
  refine At.val (Val.indexArr 1 rfl Tryd.underlying59 Tryd.sizeOf3 rfl rfl (by decide) (by decide)) rfl rfl rfl ?_
  refine At.val (Val.load (i := 2) Tryd.isAgg3 rfl rfl rfl) rfl rfl rfl ?_
  refine At.val (Val.indexArr 2 rfl Tryd.underlying59 Tryd.sizeOf3 rfl rfl (by decide) (by decide)) rfl rfl rfl ?_
  refine At.val (Val.load (i := 2) Tryd.isAgg3 rfl rfl rfl) rfl rfl rfl ?_
  refine At.callP (fun w hw => super_p n0 n1 n2 w) Tryd.call37 rfl rfl ?_
  refine At.alloc Tryd.zeroValue23 rfl rfl (fun b4 => ?_)
  refine At.storeAll (i := 0) Tryd.sizeOf23 rfl rfl rfl (by simp [Value.oneCell']) rfl rfl ?_
  simp only [List.set_cons_zero, List.set_cons_succ]
  refine At.nil ?_
  refine At.thenN ?_
  refine At.seq ?_
  refine At.region ?_
  refine At.val (Val.loadAll (i := 0) Tryd.isAgg23 Tryd.sizeOf23 rfl rfl rfl) rfl rfl rfl ?_
  refine At.callP (fun w hw => (by have := fit_p (supP n0 n1) (supI n1) (supC n2) w; rwa [fit_yes hg] at this)) Tryd.call20 rfl rfl ?_
  refine At.val (Val.move rfl) rfl rfl rfl ?_
  refine At.val (Val.extract rfl rfl) rfl rfl rfl ?_
  refine At.val (Val.extract rfl rfl) rfl rfl rfl ?_
  refine At.alloc Tryd.zeroValue25 rfl rfl (fun b5 => ?_)
  refine At.storeAll (i := 0) Tryd.sizeOf25 rfl rfl rfl (by simp [Value.oneCell']) rfl rfl ?_
  simp only [List.set_cons_zero, List.set_cons_succ]
  refine At.val (Val.assign rfl) rfl rfl rfl ?_
  refine At.nil ?_
  refine At.thenN ?_
  refine At.seq ?_
  refine At.region ?_
  refine At.val (Val.field 0 rfl fo_23_0 rfl) rfl rfl rfl ?_
  refine At.val (Val.load (i := 1) Tryd.isAgg3 rfl rfl rfl) rfl rfl rfl ?_
  refine At.val (Val.field 1 rfl fo_23_1 rfl) rfl rfl rfl ?_
  refine At.val (Val.load (i := 1) Tryd.isAgg3 rfl rfl rfl) rfl rfl rfl ?_
  refine At.val (Val.field 2 rfl fo_23_2 rfl) rfl rfl rfl ?_
  refine At.val (Val.load (i := 1) Tryd.isAgg3 rfl rfl rfl) rfl rfl rfl ?_
  refine At.val (Val.field 1 rfl fo_23_1 rfl) rfl rfl rfl ?_
  refine At.val (Val.load (i := 1) Tryd.isAgg3 rfl rfl rfl) rfl rfl rfl ?_
  first | refine At.val (Val.quoI rfl rfl (by omega) (by omega) (by decide)) rfl rfl rfl ?_ | refine At.val (Val.quo rfl rfl (by decide)) rfl rfl rfl ?_
  first | refine At.val (Val.addI rfl rfl (by omega) (by omega)) rfl rfl rfl ?_ | refine At.val (Val.bin rfl rfl rfl) rfl rfl rfl ?_
  refine At.val (Val.build (fun a ha => by simp only [List.map_toArray, List.map_cons, List.map_nil, ha.eval (x := (.tmp 37)) rfl, ha.eval (x := (.tmp 39)) rfl, ha.eval (x := (.tmp 41)) rfl, ha.eval (x := (.tmp 45)) rfl] <;> rfl) (bld_25_0_1_2_3 _ _ _ _ )) rfl rfl rfl ?_
  refine At.alloc Tryd.zeroValue25 rfl rfl (fun b6 => ?_)
  refine At.storeAll (i := 0) Tryd.sizeOf25 rfl rfl rfl (by simp [Value.oneCell']) rfl rfl ?_
  simp only [List.set_cons_zero, List.set_cons_succ]
  refine At.nil ?_
  refine At.thenN ?_
  refine At.seq ?_
  refine At.seq ?_
  refine At.region ?_
  refine At.val (Val.move rfl) rfl rfl rfl ?_
  refine At.val (Val.bin rfl rfl rfl) rfl rfl rfl ?_
  refine At.val (Val.move rfl) rfl rfl rfl ?_
  refine At.yes rfl rfl ?_
  refine At.val (Val.loadAll (i := 1) Tryd.isAgg25 Tryd.sizeOf25 rfl rfl rfl) rfl rfl rfl ?_
  refine At.yes rfl rfl ?_
  refine At.val (Val.loadAll (i := 0) Tryd.isAgg25 Tryd.sizeOf25 rfl rfl rfl) rfl rfl rfl ?_
  refine At.yes rfl rfl ?_
  refine At.val (Val.neAgg (b := true) Tryd.eqGuardType25 (fun w => by simpa using eq_25 (supP n0 n1) (supI n1) (supC n2) (4 + (supI n1) / 8) (supP n0 n1) (supI n1) (supC n2) (4 + (supI n1) / 8) w) rfl rfl) rfl rfl rfl ?_
  refine At.val (Val.pickF rfl rfl) rfl rfl rfl ?_
  refine At.nil ?_
  refine At.thenN ?_
  refine At.condF rfl ?_
  refine At.skipC ?_
  refine At.thenN ?_
  refine At.seq ?_
  refine At.region ?_
  refine At.val (Val.loadAll (i := 2) Tryd.isAgg23 Tryd.sizeOf23 rfl rfl rfl) rfl rfl rfl ?_
  refine At.callP (fun w hw => (by have := packSup_p (supP n0 n1) (supI n1) (supC n2) w (ht.mod hw.mod); rwa [packSup_yes hg] at this)) Tryd.call22 rfl rfl ?_
  refine At.val (Val.move rfl) rfl rfl rfl ?_
  refine At.val (Val.extract rfl rfl) rfl rfl rfl ?_
  refine At.val (Val.extract rfl rfl) rfl rfl rfl ?_
  refine At.alloc zero_30 zc_30 rfl (fun b7 => ?_)
  refine At.storeAll (i := 0) Tryd.sizeOf30 rfl rfl (by rw [List.length_map]; exact hL) (by simp [Value.oneCell']) rfl (by simp) ?_
  simp only [List.set_cons_zero, List.set_cons_succ]
  refine At.val (Val.assign rfl) rfl rfl rfl ?_
  refine At.nil ?_
  refine At.thenN ?_
  refine At.seq ?_
  refine At.region ?_
  refine At.val (Val.loadAll (i := 0) Tryd.isAgg30 Tryd.sizeOf30 rfl rfl (by rw [List.length_map]; exact hL)) rfl rfl rfl ?_
  refine At.callP (fun w hw => (by have := openSup_p (lineL (superB (supP n0 n1).toNat (supI n1).toNat (supC n2).toNat)) w (ht.mod hw.mod) hL; rwa [openSup_yes ok.1, ok.2.1, ok.2.2.1, ok.2.2.2] at this)) Tryd.call26 rfl rfl ?_
  refine At.val (Val.move rfl) rfl rfl rfl ?_
  refine At.val (Val.extract rfl rfl) rfl rfl rfl ?_
  refine At.val (Val.extract rfl rfl) rfl rfl rfl ?_
  refine At.alloc Tryd.zeroValue23 rfl rfl (fun b8 => ?_)
  refine At.storeAll (i := 0) Tryd.sizeOf23 rfl rfl rfl (by simp [Value.oneCell']) rfl rfl ?_
  simp only [List.set_cons_zero, List.set_cons_succ]
  refine At.val (Val.assign rfl) rfl rfl rfl ?_
  refine At.nil ?_
  refine At.thenN ?_
  refine At.seq ?_
  refine At.seq ?_
  refine At.region ?_
  refine At.val (Val.move rfl) rfl rfl rfl ?_
  refine At.val (Val.bin rfl rfl rfl) rfl rfl rfl ?_
  refine At.val (Val.move rfl) rfl rfl rfl ?_
  refine At.yes rfl rfl ?_
  refine At.val (Val.move rfl) rfl rfl rfl ?_
  refine At.yes rfl rfl ?_
  refine At.val (Val.bin rfl rfl rfl) rfl rfl rfl ?_
  refine At.val (Val.pickF rfl rfl) rfl rfl rfl ?_
  refine At.val (Val.move rfl) rfl rfl rfl ?_
  refine At.yes rfl rfl ?_
  refine At.val (Val.loadAll (i := 0) Tryd.isAgg23 Tryd.sizeOf23 rfl rfl rfl) rfl rfl rfl ?_
  refine At.yes rfl rfl ?_
  refine At.val (Val.loadAll (i := 4) Tryd.isAgg23 Tryd.sizeOf23 rfl rfl rfl) rfl rfl rfl ?_
  refine At.yes rfl rfl ?_
  refine At.val (Val.neAgg (b := true) Tryd.eqGuardType23 (fun w => by simpa using eq_23 (supP n0 n1) (supI n1) (supC n2) (supP n0 n1) (supI n1) (supC n2) w) rfl rfl) rfl rfl rfl ?_
  refine At.val (Val.pickF rfl rfl) rfl rfl rfl ?_
  refine At.nil ?_
  refine At.thenN ?_
  refine At.condF rfl ?_
  refine At.skipC ?_
  refine At.thenN ?_
  refine At.seq ?_
  refine At.region ?_
  refine At.val (Val.field 0 rfl fo_23_0 rfl) rfl rfl rfl ?_
  refine At.val (Val.load (i := 4) Tryd.isAgg3 rfl rfl rfl) rfl rfl rfl ?_
  refine At.val (Val.mulI rfl rfl (by omega) (by omega)) rfl rfl rfl ?_
  rw [show (512 : Int) * (supP n0 n1) = ((512 * (supP n0 n1).toNat : Nat) : Int) from by omega]
  refine At.makeRowB (n := 512 * (supP n0 n1).toNat) Tryd.underlying54 info_5 rfl rfl rfl rfl rfl (by omega) rfl (fun v9 => ?_)
  refine At.val (Val.assign rfl) rfl rfl rfl ?_
  refine At.nil ?_
  refine At.thenN ?_
  refine At.seq ?_
  refine At.region ?_
  refine At.val (Val.loadAll (i := 2) Tryd.isAgg30 Tryd.sizeOf30 rfl rfl (by rw [List.length_map]; exact hL)) rfl rfl rfl ?_
  refine At.callN (fun w hw => bytesOf_n (lineL (superB (supP n0 n1).toNat (supI n1).toNat (supC n2).toNat)) w hL) Tryd.call38 rfl rfl (fun v10 => ?_)
  refine At.val (Val.assign rfl) rfl rfl rfl ?_
  refine At.nil ?_
  refine At.thenN ?_
  refine At.seq ?_
  refine At.region ?_
  refine At.val (Val.move rfl) rfl rfl rfl ?_
  refine At.val (Val.loadAll (i := 8) Tryd.isAgg50 Tryd.sizeOf50 rfl rfl rfl) rfl rfl rfl ?_
  refine At.callN (fun w hw => spoilt_n _ (lineL (superB (supP n0 n1).toNat (supI n1).toNat (supC n2).toNat)) p F 0 512 w (row_rd (hw.row (i := 0) rfl) (by decide)) (by omega) (by decide) (by decide) (by omega)) Tryd.call39 rfl rfl (fun v11 => ?_)
  refine At.val (Val.assign rfl) rfl rfl rfl ?_
  refine At.nil ?_
  refine At.thenN ?_
  refine At.seq ?_
  refine At.region ?_
  refine At.val (Val.move rfl) rfl rfl rfl ?_
  refine At.val (Val.loadAll (i := 8) Tryd.isAgg50 Tryd.sizeOf50 rfl rfl rfl) rfl rfl rfl ?_
  refine At.callN (fun w hw => spoilt_n _ (lineL (superB (supP n0 n1).toNat (supI n1).toNat (supC n2).toNat)) r D 0 512 w (row_rd (hw.row (i := 1) rfl) (by decide)) (by omega) (by decide) (by decide) (by omega)) Tryd.call39 rfl rfl (fun v12 => ?_)
  refine At.val (Val.assign rfl) rfl rfl rfl ?_
  refine At.nil ?_
  refine At.thenN ?_
  refine At.seq ?_
  refine At.seq ?_
  refine At.region ?_
  refine At.val (Val.assign rfl) rfl rfl rfl ?_
  refine At.nil ?_
  refine At.thenN ?_
  refine At.block ?_
  skip
  refine At.drop 11 ?_
  simp only [List.eraseIdx_cons_zero, List.eraseIdx_cons_succ]
  refine At.drop 8 ?_
  simp only [List.eraseIdx_cons_zero, List.eraseIdx_cons_succ]
  refine At.drop 7 ?_
  simp only [List.eraseIdx_cons_zero, List.eraseIdx_cons_succ]
  refine At.drop 5 ?_
  simp only [List.eraseIdx_cons_zero, List.eraseIdx_cons_succ]
  refine At.drop 4 ?_
  simp only [List.eraseIdx_cons_zero, List.eraseIdx_cons_succ]
  refine At.drop 2 ?_
  simp only [List.eraseIdx_cons_zero, List.eraseIdx_cons_succ]
  refine At.loop (σ := Nat) (fun k => k ≤ 64) (fun k => [(4, .pointer (some ⟨b2, 0, none⟩)), (5, .pointer (some ⟨b3, 0, none⟩)), (10, .pointer (some ⟨b6, 0, none⟩)), (15, v9), (17, v11), (18, v12), (19, .int .i64 (k : Int))]) (fun k => [rowR v12 5 1 (((spoilL (lineL (superB (supP n0 n1).toNat (supI n1).toNat (supC n2).toNat)) (0 + r % (512 - 32 - 0 + 1)).toNat D.toNat)).length) (((spoilL (lineL (superB (supP n0 n1).toNat (supI n1).toNat (supC n2).toNat)) (0 + r % (512 - 32 - 0 + 1)).toNat D.toNat)).map bv), rowR v11 5 1 (((spoilL (lineL (superB (supP n0 n1).toNat (supI n1).toNat (supC n2).toNat)) (0 + p % (512 - 32 - 0 + 1)).toNat F.toNat)).length) (((spoilL (lineL (superB (supP n0 n1).toNat (supI n1).toNat (supC n2).toNat)) (0 + p % (512 - 32 - 0 + 1)).toNat F.toNat)).map bv), rowR v9 5 1 ((imgK (spoilL (lineL (superB (supP n0 n1).toNat (supI n1).toNat (supC n2).toNat)) (0 + p % (512 - 32 - 0 + 1)).toNat F.toNat) (spoilL (lineL (superB (supP n0 n1).toNat (supI n1).toNat (supC n2).toNat)) (0 + r % (512 - 32 - 0 + 1)).toNat D.toNat) (512 * (supP n0 n1).toNat - 128) k).length) ((imgK (spoilL (lineL (superB (supP n0 n1).toNat (supI n1).toNat (supC n2).toNat)) (0 + p % (512 - 32 - 0 + 1)).toNat F.toNat) (spoilL (lineL (superB (supP n0 n1).toNat (supI n1).toNat (supC n2).toNat)) (0 + r % (512 - 32 - 0 + 1)).toNat D.toNat) (512 * (supP n0 n1).toNat - 128) k).map bv), blk b6 25 ([.int .i64 (supP n0 n1), .int .i64 (supI n1), .int .i64 (supC n2), .int .i64 (4 + (supI n1) / 8)]), blk b3 50 ([.int .i64 r, b32 D]), blk b2 50 ([.int .i64 p, b32 F])]) (fun k => 64 - k) 0 (by omega) (Sub.cons rfl (Sub.cons rfl (Sub.cons rfl (Sub.cons rfl (Sub.cons rfl (Sub.cons rfl (Sub.cons rfl Sub.nil))))))) (by rw [img_zero (spoilL (lineL (superB (supP n0 n1).toNat (supI n1).toNat (supC n2).toNat)) (0 + p % (512 - 32 - 0 + 1)).toNat F.toNat) (spoilL (lineL (superB (supP n0 n1).toNat (supI n1).toNat (supC n2).toNat)) (0 + r % (512 - 32 - 0 + 1)).toNat D.toNat) (m := 512 * (supP n0 n1).toNat) (by omega)]) ?_
  intro k hs
  refine At.seq ?_
  refine At.seq ?_
  refine At.region ?_
  refine At.val (Val.move rfl) rfl rfl rfl ?_
  refine At.val (Val.bin rfl rfl rfl) rfl rfl rfl ?_
  refine At.nil ?_
  refine At.thenN ?_
  refine At.cond rfl (fun h13 => ?_) (fun h13 => ?_)
  · skip
    try simp only [vN_T, vN_F, nmE_T, nmE_F, wI_T, wI_F, data_T, data_F, ino_T, ino_F, notT, notF, bneT, bneF, beqT, beqF, decT, decF] at h13
    have hk : k < 64 := by omega
    have himg : (imgK (spoilL (lineL (superB (supP n0 n1).toNat (supI n1).toNat (supC n2).toNat)) (0 + p % (512 - 32 - 0 + 1)).toNat F.toNat) (spoilL (lineL (superB (supP n0 n1).toNat (supI n1).toNat (supC n2).toNat)) (0 + r % (512 - 32 - 0 + 1)).toNat D.toNat) (512 * (supP n0 n1).toNat - 128) k).length = 128 + (512 * (supP n0 n1).toNat - 128) := img_length hf1 hf2 k
    refine At.skipC ?_
    refine At.thenN ?_
    refine At.seq ?_
    refine At.block ?_
    refine At.seq ?_
    refine At.region ?_
    refine At.val (Val.move rfl) rfl rfl rfl ?_
    refine At.val (Val.move rfl) rfl rfl rfl ?_
    refine At.val (Val.move rfl) rfl rfl rfl ?_
    refine At.val (Val.move rfl) rfl rfl rfl ?_
    refine At.idxRowB (i := 1) rfl Tryd.underlying54 Tryd.sizeOf5 rfl rfl (by omega) (by omega) rfl rfl (fun q14 hq15 hl16 => ?_)
    refine At.val (Val.loadRowB (i := 1) Tryd.isAgg5 rfl rfl hq15) rfl rfl rfl ?_
    refine At.idxRowB (i := 2) rfl Tryd.underlying54 Tryd.sizeOf5 rfl rfl (by omega) (by omega) rfl rfl (fun q17 hq18 hl19 => ?_)
    refine At.storeRowB (i := 2) Tryd.sizeOf5 rfl rfl rfl (by omega) ?_
    simp only [List.set_cons_zero, List.set_cons_succ]
    rw [show ((k : Nat) : Int).toNat = k from Int.toNat_natCast _]
    have hs1 : ((imgK (spoilL (lineL (superB (supP n0 n1).toNat (supI n1).toNat (supC n2).toNat)) (0 + p % (512 - 32 - 0 + 1)).toNat F.toNat) (spoilL (lineL (superB (supP n0 n1).toNat (supI n1).toNat (supC n2).toNat)) (0 + r % (512 - 32 - 0 + 1)).toNat D.toNat) (512 * (supP n0 n1).toNat - 128) k).set k q14).length = 128 + (512 * (supP n0 n1).toNat - 128) := by rw [List.length_set, himg]
    refine At.nil ?_
    refine At.thenN ?_
    refine At.region ?_
    refine At.val (Val.move rfl) rfl rfl rfl ?_
    refine At.val (Val.move rfl) rfl rfl rfl ?_
    first | refine At.val (Val.addI rfl rfl (by omega) (by omega)) rfl rfl rfl ?_ | refine At.val (Val.bin rfl rfl rfl) rfl rfl rfl ?_
    refine At.val (Val.move rfl) rfl rfl rfl ?_
    refine At.val (Val.move rfl) rfl rfl rfl ?_
    refine At.idxRowB (i := 0) rfl Tryd.underlying54 Tryd.sizeOf5 rfl rfl (by omega) (by omega) rfl rfl (fun q20 hq21 hl22 => ?_)
    refine At.val (Val.loadRowB (i := 0) Tryd.isAgg5 rfl rfl hq21) rfl rfl rfl ?_
    refine At.idxRowB (i := 2) rfl Tryd.underlying54 Tryd.sizeOf5 rfl rfl (by omega) (by omega) rfl rfl (fun q23 hq24 hl25 => ?_)
    refine At.storeRowB (i := 2) Tryd.sizeOf5 rfl rfl rfl (by omega) ?_
    simp only [List.set_cons_zero, List.set_cons_succ]
    rw [show (64 + ((k : Nat) : Int)).toNat = 64 + k from by omega, img_step hf1 hf2 (by have := hq15; rwa [Int.toNat_natCast] at this) (by have := hq21; rwa [Int.toNat_natCast] at this)]
    refine At.nil ?_
    refine At.blkN ?_
    refine At.thenN ?_
    refine At.region ?_
    refine At.val (Val.move rfl) rfl rfl rfl ?_
    first | refine At.val (Val.addI rfl rfl (by omega) (by omega)) rfl rfl rfl ?_ | refine At.val (Val.bin rfl rfl rfl) rfl rfl rfl ?_
    refine At.val (Val.assign rfl) rfl rfl rfl ?_
    refine At.nil ?_
    refine At.thenN ?_
    exact At.again (k + 1) (by omega) (by omega) (Sub.cons rfl (Sub.cons rfl (Sub.cons rfl (Sub.cons rfl (Sub.cons rfl (Sub.cons rfl (Sub.cons (congrArg (fun z => some (Value.int IntKind.i64 z)) (by omega)) Sub.nil))))))) (List.Perm.refl _)
  · skip
    try simp only [vN_T, vN_F, nmE_T, nmE_F, wI_T, wI_F, data_T, data_F, ino_T, ino_F, notT, notF, bneT, bneF, beqT, beqF, decT, decF] at h13
    obtain rfl : k = 64 := by omega
    rw [img_all hf1 hf2]
    refine At.exitC ?_
    refine At.thenX ?_
    refine At.thenX ?_
    refine At.blkX ?_
    refine At.thenN ?_
    refine At.seq ?_
    refine At.region ?_
    refine At.val (Val.move rfl) rfl rfl rfl ?_
    refine At.callP (fun w hw => (by have := findI_p _ ((spoilL (lineL (superB (supP n0 n1).toNat (supI n1).toNat (supC n2).toNat)) (0 + p % (512 - 32 - 0 + 1)).toNat F.toNat) ++ ((spoilL (lineL (superB (supP n0 n1).toNat (supI n1).toNat (supC n2).toNat)) (0 + r % (512 - 32 - 0 + 1)).toNat D.toNat) ++ zs (512 * (supP n0 n1).toNat - 128))) w (ht.mod hw.mod) (row_rd (hw.row (i := 2) rfl) (by decide)) (by rw [himg0]; omega); rwa [find_img hg (by omega) hf1 hf2 (Or.inl (by rw [show F.toNat = 0 from by rw [h1]; rfl, spoilL_zero]))] at this)) Tryd.call34 rfl rfl ?_
    refine At.val (Val.move rfl) rfl rfl rfl ?_
    refine At.val (Val.extract rfl rfl) rfl rfl rfl ?_
    refine At.val (Val.extract rfl rfl) rfl rfl rfl ?_
    refine At.alloc Tryd.zeroValue25 rfl rfl (fun b26 => ?_)
    refine At.storeAll (i := 0) Tryd.sizeOf25 rfl rfl rfl (by simp [Value.oneCell']) rfl rfl ?_
    simp only [List.set_cons_zero, List.set_cons_succ]
    refine At.val (Val.assign rfl) rfl rfl rfl ?_
    refine At.nil ?_
    refine At.thenN ?_
    refine At.seq ?_
    refine At.seq ?_
    refine At.region ?_
    refine At.val (Val.field 1 rfl fo_50_1 rfl) rfl rfl rfl ?_
    refine At.val (Val.load (i := 6) Tryd.isAgg48 rfl rfl rfl) rfl rfl rfl ?_
    refine At.val (Val.bin rfl rfl rfl) rfl rfl rfl ?_
    rw [fz_T h1]
    refine At.val (Val.move rfl) rfl rfl rfl ?_
    refine At.no rfl rfl rfl rfl ?_
    refine At.no rfl rfl rfl rfl ?_
    refine At.no rfl rfl rfl rfl ?_
    refine At.val (Val.pickT rfl rfl) rfl rfl rfl ?_
    refine At.nil ?_
    refine At.thenN ?_
    refine At.condT rfl ?_
    refine At.seq ?_
    refine At.seq ?_
    refine At.region ?_
    refine At.val (Val.move rfl) rfl rfl rfl ?_
    refine At.val (Val.bin rfl rfl rfl) rfl rfl rfl ?_
    refine At.val (Val.move rfl) rfl rfl rfl ?_
    refine At.yes rfl rfl ?_
    refine At.val (Val.loadAll (i := 0) Tryd.isAgg25 Tryd.sizeOf25 rfl rfl rfl) rfl rfl rfl ?_
    refine At.yes rfl rfl ?_
    refine At.val (Val.loadAll (i := 4) Tryd.isAgg25 Tryd.sizeOf25 rfl rfl rfl) rfl rfl rfl ?_
    refine At.yes rfl rfl ?_
    refine At.val (Val.neAgg (b := true) Tryd.eqGuardType25 (fun w => by simpa using eq_25 (supP n0 n1) (supI n1) (supC n2) (4 + (supI n1) / 8) (supP n0 n1) (supI n1) (supC n2) (4 + (supI n1) / 8) w) rfl rfl) rfl rfl rfl ?_
    refine At.val (Val.pickF rfl rfl) rfl rfl rfl ?_
    refine At.nil ?_
    refine At.thenN ?_
    refine At.condF rfl ?_
    refine At.skipC ?_
    refine At.thenN ?_
    refine At.seq ?_
    refine At.region ?_
    refine At.val (Val.move rfl) rfl rfl rfl ?_
    refine At.val (Val.move rfl) rfl rfl rfl ?_
    refine At.val (Val.lenRow (i := 3) Tryd.underlying54 rfl rfl) rfl rfl rfl ?_
    refine At.val (Val.subI rfl rfl (by omega) (by omega)) rfl rfl rfl ?_
    refine At.rowIs (i := 3) rfl (fun A27 c28 hv => ?_)
    subst hv
    refine At.val (Val.cutRow (i := 3) (l := 0) (h := 512 * (supP n0 n1).toNat - 512) rfl (by decide) Tryd.underlying54 Tryd.sizeOf5 rfl rfl ⟨_, _, rfl, by omega, by omega⟩ (by omega) (by omega)) rfl rfl rfl ?_
    refine At.callP (fun w hw => (by have := findI_p _ _ w (ht.mod hw.mod) (RdB.cut (l := 0) (h := 512 * (supP n0 n1).toNat - 512) (row_rd (hw.row (i := 3) rfl) (by decide)) (by omega) (by omega)) (by rw [List.length_take, List.length_drop, himg0]; omega); rwa [show (((spoilL (lineL (superB (supP n0 n1).toNat (supI n1).toNat (supC n2).toNat)) (0 + p % (512 - 32 - 0 + 1)).toNat F.toNat) ++ ((spoilL (lineL (superB (supP n0 n1).toNat (supI n1).toNat (supC n2).toNat)) (0 + r % (512 - 32 - 0 + 1)).toNat D.toNat) ++ zs (512 * (supP n0 n1).toNat - 128))).drop 0).take (512 * (supP n0 n1).toNat - 512 - 0) = ((spoilL (lineL (superB (supP n0 n1).toNat (supI n1).toNat (supC n2).toNat)) (0 + p % (512 - 32 - 0 + 1)).toNat F.toNat) ++ ((spoilL (lineL (superB (supP n0 n1).toNat (supI n1).toNat (supC n2).toNat)) (0 + r % (512 - 32 - 0 + 1)).toNat D.toNat) ++ zs (512 * (supP n0 n1).toNat - 128))).take (512 * (supP n0 n1).toNat - 512) from by rw [List.drop_zero, Nat.sub_zero], find_short hg (by omega) hf1 hf2 (Or.inl (by rw [show F.toNat = 0 from by rw [h1]; rfl, spoilL_zero])) (Or.inr (spoil_told hL hwh hD32 D.isLt (by omega)))] at this)) Tryd.call34 rfl rfl ?_
    refine At.val (Val.move rfl) rfl rfl rfl ?_
    refine At.val (Val.extract rfl rfl) rfl rfl rfl ?_
    refine At.val (Val.extract rfl rfl) rfl rfl rfl ?_
    refine At.alloc Tryd.zeroValue25 rfl rfl (fun b29 => ?_)
    refine At.storeAll (i := 0) Tryd.sizeOf25 rfl rfl rfl (by simp [Value.oneCell']) rfl rfl ?_
    simp only [List.set_cons_zero, List.set_cons_succ]
    refine At.val (Val.assign rfl) rfl rfl rfl ?_
    refine At.nil ?_
    refine At.thenN ?_
    refine At.seq ?_
    refine At.region ?_
    refine At.val (Val.move rfl) rfl rfl rfl ?_
    refine At.val (Val.bin rfl rfl rfl) rfl rfl rfl ?_
    refine At.val (Val.assign rfl) rfl rfl rfl ?_
    refine At.nil ?_
    refine At.thenN ?_
    refine At.retC ?_
    refine At.thenR ?_
    refine At.ret1 (.inl rfl) rfl rfl rfl (fun w hw => ?_)
    exact ⟨retB (by first | rfl | simp), hw.mod⟩

theorem lawSH_FT (n0 n1 n2 p r : Int) (F D : BitVec 32) (w : World) (ht : Tab w) (h1 : ¬ F = 0) (h2 : D = 0) :
    PureC Tryd.prog 8 [.agg #[.int .i64 n0, .int .i64 n1, .int .i64 n2], .agg #[.int .i64 p, b32 F], .agg #[.int .i64 r, b32 D]] (.bool true) w := by
  refine enter0 Tryd.func8 rfl Tryd.ntmps8 rfl ?_
  have hg := sup_good n0 n1 n2
  have hg' := hg
  unfold GoodSup at hg'
  have ok := super_ok hg
  have hL : (lineL (superB (supP n0 n1).toNat (supI n1).toNat (supC n2).toNat)).length = 64 := lineL_length (by rw [superB_length]; decide)
  have hwh := sup_whole hL ok.1
  have hf1 : (spoilL (lineL (superB (supP n0 n1).toNat (supI n1).toNat (supC n2).toNat)) (0 + p % (512 - 32 - 0 + 1)).toNat F.toNat).length = 64 := by rw [spoilL_length, hL]
  have hf2 : (spoilL (lineL (superB (supP n0 n1).toNat (supI n1).toNat (supC n2).toNat)) (0 + r % (512 - 32 - 0 + 1)).toNat D.toNat).length = 64 := by rw [spoilL_length, hL]
  have himg0 : ((spoilL (lineL (superB (supP n0 n1).toNat (supI n1).toNat (supC n2).toNat)) (0 + p % (512 - 32 - 0 + 1)).toNat F.toNat) ++ ((spoilL (lineL (superB (supP n0 n1).toNat (supI n1).toNat (supC n2).toNat)) (0 + r % (512 - 32 - 0 + 1)).toNat D.toNat) ++ zs (512 * (supP n0 n1).toNat - 128))).length = 512 * (supP n0 n1).toNat := by rw [List.length_append, List.length_append, zs_length, hf1, hf2]; omega
  have hF32 : F.toNat ≠ 0 := fun e => h1 (BitVec.eq_of_toNat_eq e)
  simp only [envOf]
  refine At.seq ?_
  refine At.region ?_
  refine At.box rfl rfl rfl (fun b1 => ?_)
  refine At.box rfl rfl rfl (fun b2 => ?_)
  refine At.box rfl rfl rfl (fun b3 => ?_)
  refine At.val (Val.assign rfl) rfl rfl rfl ?_
  refine At.nil ?_
  refine At.thenN ?_
  refine At.seq ?_
  refine At.region ?_
  refine At.val (Val.indexArr 0 rfl Tryd.underlying59 Tryd.sizeOf3 rfl rfl (by decide) (by decide)) rfl rfl rfl ?_
  refine At.val (Val.load (i := 2) Tryd.isAgg3 rfl rfl rfl) rfl rfl rfl ?_
  refine At.val (Val.indexArr 1 rfl Tryd.underlying59 Tryd.sizeOf3 rfl rfl (by decide) (by decide)) rfl rfl rfl ?_
  refine At.val (Val.load (i := 2) Tryd.isAgg3 rfl rfl rfl) rfl rfl rfl ?_
  refine At.val (Val.indexArr 2 rfl Tryd.underlying59 Tryd.sizeOf3 rfl rfl (by decide) (by decide)) rfl rfl rfl ?_
  refine At.val (Val.load (i := 2) Tryd.isAgg3 rfl rfl rfl) rfl rfl rfl ?_
  refine At.callP (fun w hw => super_p n0 n1 n2 w) Tryd.call37 rfl rfl ?_
  refine At.alloc Tryd.zeroValue23 rfl rfl (fun b4 => ?_)
  refine At.storeAll (i := 0) Tryd.sizeOf23 rfl rfl rfl (by simp [Value.oneCell']) rfl rfl ?_
  simp only [List.set_cons_zero, List.set_cons_succ]
  refine At.nil ?_
  refine At.thenN ?_
  refine At.seq ?_
  refine At.region ?_
  refine At.val (Val.loadAll (i := 0) Tryd.isAgg23 Tryd.sizeOf23 rfl rfl rfl) rfl rfl rfl ?_
  refine At.callP (fun w hw => (by have := fit_p (supP n0 n1) (supI n1) (supC n2) w; rwa [fit_yes hg] at this)) Tryd.call20 rfl rfl ?_
  refine At.val (Val.move rfl) rfl rfl rfl ?_
  refine At.val (Val.extract rfl rfl) rfl rfl rfl ?_
  refine At.val (Val.extract rfl rfl) rfl rfl rfl ?_
  refine At.alloc Tryd.zeroValue25 rfl rfl (fun b5 => ?_)
  refine At.storeAll (i := 0) Tryd.sizeOf25 rfl rfl rfl (by simp [Value.oneCell']) rfl rfl ?_
  simp only [List.set_cons_zero, List.set_cons_succ]
  refine At.val (Val.assign rfl) rfl rfl rfl ?_
  refine At.nil ?_
  refine At.thenN ?_
  refine At.seq ?_
  refine At.region ?_
  refine At.val (Val.field 0 rfl fo_23_0 rfl) rfl rfl rfl ?_
  refine At.val (Val.load (i := 1) Tryd.isAgg3 rfl rfl rfl) rfl rfl rfl ?_
  refine At.val (Val.field 1 rfl fo_23_1 rfl) rfl rfl rfl ?_
  refine At.val (Val.load (i := 1) Tryd.isAgg3 rfl rfl rfl) rfl rfl rfl ?_
  refine At.val (Val.field 2 rfl fo_23_2 rfl) rfl rfl rfl ?_
  refine At.val (Val.load (i := 1) Tryd.isAgg3 rfl rfl rfl) rfl rfl rfl ?_
  refine At.val (Val.field 1 rfl fo_23_1 rfl) rfl rfl rfl ?_
  refine At.val (Val.load (i := 1) Tryd.isAgg3 rfl rfl rfl) rfl rfl rfl ?_
  first | refine At.val (Val.quoI rfl rfl (by omega) (by omega) (by decide)) rfl rfl rfl ?_ | refine At.val (Val.quo rfl rfl (by decide)) rfl rfl rfl ?_
  first | refine At.val (Val.addI rfl rfl (by omega) (by omega)) rfl rfl rfl ?_ | refine At.val (Val.bin rfl rfl rfl) rfl rfl rfl ?_
  refine At.val (Val.build (fun a ha => by simp only [List.map_toArray, List.map_cons, List.map_nil, ha.eval (x := (.tmp 37)) rfl, ha.eval (x := (.tmp 39)) rfl, ha.eval (x := (.tmp 41)) rfl, ha.eval (x := (.tmp 45)) rfl] <;> rfl) (bld_25_0_1_2_3 _ _ _ _ )) rfl rfl rfl ?_
  refine At.alloc Tryd.zeroValue25 rfl rfl (fun b6 => ?_)
  refine At.storeAll (i := 0) Tryd.sizeOf25 rfl rfl rfl (by simp [Value.oneCell']) rfl rfl ?_
  simp only [List.set_cons_zero, List.set_cons_succ]
  refine At.nil ?_
  refine At.thenN ?_
  refine At.seq ?_
  refine At.seq ?_
  refine At.region ?_
  refine At.val (Val.move rfl) rfl rfl rfl ?_
  refine At.val (Val.bin rfl rfl rfl) rfl rfl rfl ?_
  refine At.val (Val.move rfl) rfl rfl rfl ?_
  refine At.yes rfl rfl ?_
  refine At.val (Val.loadAll (i := 1) Tryd.isAgg25 Tryd.sizeOf25 rfl rfl rfl) rfl rfl rfl ?_
  refine At.yes rfl rfl ?_
  refine At.val (Val.loadAll (i := 0) Tryd.isAgg25 Tryd.sizeOf25 rfl rfl rfl) rfl rfl rfl ?_
  refine At.yes rfl rfl ?_
  refine At.val (Val.neAgg (b := true) Tryd.eqGuardType25 (fun w => by simpa using eq_25 (supP n0 n1) (supI n1) (supC n2) (4 + (supI n1) / 8) (supP n0 n1) (supI n1) (supC n2) (4 + (supI n1) / 8) w) rfl rfl) rfl rfl rfl ?_
  refine At.val (Val.pickF rfl rfl) rfl rfl rfl ?_
  refine At.nil ?_
  refine At.thenN ?_
  refine At.condF rfl ?_
  refine At.skipC ?_
  refine At.thenN ?_
  refine At.seq ?_
  refine At.region ?_
  refine At.val (Val.loadAll (i := 2) Tryd.isAgg23 Tryd.sizeOf23 rfl rfl rfl) rfl rfl rfl ?_
  refine At.callP (fun w hw => (by have := packSup_p (supP n0 n1) (supI n1) (supC n2) w (ht.mod hw.mod); rwa [packSup_yes hg] at this)) Tryd.call22 rfl rfl ?_
  refine At.val (Val.move rfl) rfl rfl rfl ?_
  refine At.val (Val.extract rfl rfl) rfl rfl rfl ?_
  refine At.val (Val.extract rfl rfl) rfl rfl rfl ?_
  refine At.alloc zero_30 zc_30 rfl (fun b7 => ?_)
  refine At.storeAll (i := 0) Tryd.sizeOf30 rfl rfl (by rw [List.length_map]; exact hL) (by simp [Value.oneCell']) rfl (by simp) ?_
  simp only [List.set_cons_zero, List.set_cons_succ]
  refine At.val (Val.assign rfl) rfl rfl rfl ?_
  refine At.nil ?_
  refine At.thenN ?_
  refine At.seq ?_
  refine At.region ?_
  refine At.val (Val.loadAll (i := 0) Tryd.isAgg30 Tryd.sizeOf30 rfl rfl (by rw [List.length_map]; exact hL)) rfl rfl rfl ?_
  refine At.callP (fun w hw => (by have := openSup_p (lineL (superB (supP n0 n1).toNat (supI n1).toNat (supC n2).toNat)) w (ht.mod hw.mod) hL; rwa [openSup_yes ok.1, ok.2.1, ok.2.2.1, ok.2.2.2] at this)) Tryd.call26 rfl rfl ?_
  refine At.val (Val.move rfl) rfl rfl rfl ?_
  refine At.val (Val.extract rfl rfl) rfl rfl rfl ?_
  refine At.val (Val.extract rfl rfl) rfl rfl rfl ?_
  refine At.alloc Tryd.zeroValue23 rfl rfl (fun b8 => ?_)
  refine At.storeAll (i := 0) Tryd.sizeOf23 rfl rfl rfl (by simp [Value.oneCell']) rfl rfl ?_
  simp only [List.set_cons_zero, List.set_cons_succ]
  refine At.val (Val.assign rfl) rfl rfl rfl ?_
  refine At.nil ?_
  refine At.thenN ?_
  refine At.seq ?_
  refine At.seq ?_
  refine At.region ?_
  refine At.val (Val.move rfl) rfl rfl rfl ?_
  refine At.val (Val.bin rfl rfl rfl) rfl rfl rfl ?_
  refine At.val (Val.move rfl) rfl rfl rfl ?_
  refine At.yes rfl rfl ?_
  refine At.val (Val.move rfl) rfl rfl rfl ?_
  refine At.yes rfl rfl ?_
  refine At.val (Val.bin rfl rfl rfl) rfl rfl rfl ?_
  refine At.val (Val.pickF rfl rfl) rfl rfl rfl ?_
  refine At.val (Val.move rfl) rfl rfl rfl ?_
  refine At.yes rfl rfl ?_
  refine At.val (Val.loadAll (i := 0) Tryd.isAgg23 Tryd.sizeOf23 rfl rfl rfl) rfl rfl rfl ?_
  refine At.yes rfl rfl ?_
  refine At.val (Val.loadAll (i := 4) Tryd.isAgg23 Tryd.sizeOf23 rfl rfl rfl) rfl rfl rfl ?_
  refine At.yes rfl rfl ?_
  refine At.val (Val.neAgg (b := true) Tryd.eqGuardType23 (fun w => by simpa using eq_23 (supP n0 n1) (supI n1) (supC n2) (supP n0 n1) (supI n1) (supC n2) w) rfl rfl) rfl rfl rfl ?_
  refine At.val (Val.pickF rfl rfl) rfl rfl rfl ?_
  refine At.nil ?_
  refine At.thenN ?_
  refine At.condF rfl ?_
  refine At.skipC ?_
  refine At.thenN ?_
  refine At.seq ?_
  refine At.region ?_
  refine At.val (Val.field 0 rfl fo_23_0 rfl) rfl rfl rfl ?_
  refine At.val (Val.load (i := 4) Tryd.isAgg3 rfl rfl rfl) rfl rfl rfl ?_
  refine At.val (Val.mulI rfl rfl (by omega) (by omega)) rfl rfl rfl ?_
  rw [show (512 : Int) * (supP n0 n1) = ((512 * (supP n0 n1).toNat : Nat) : Int) from by omega]
  refine At.makeRowB (n := 512 * (supP n0 n1).toNat) Tryd.underlying54 info_5 rfl rfl rfl rfl rfl (by omega) rfl (fun v9 => ?_)
  refine At.val (Val.assign rfl) rfl rfl rfl ?_
  refine At.nil ?_
  refine At.thenN ?_
  refine At.seq ?_
  refine At.region ?_
  refine At.val (Val.loadAll (i := 2) Tryd.isAgg30 Tryd.sizeOf30 rfl rfl (by rw [List.length_map]; exact hL)) rfl rfl rfl ?_
  refine At.callN (fun w hw => bytesOf_n (lineL (superB (supP n0 n1).toNat (supI n1).toNat (supC n2).toNat)) w hL) Tryd.call38 rfl rfl (fun v10 => ?_)
  refine At.val (Val.assign rfl) rfl rfl rfl ?_
  refine At.nil ?_
  refine At.thenN ?_
  refine At.seq ?_
  refine At.region ?_
  refine At.val (Val.move rfl) rfl rfl rfl ?_
  refine At.val (Val.loadAll (i := 8) Tryd.isAgg50 Tryd.sizeOf50 rfl rfl rfl) rfl rfl rfl ?_
  refine At.callN (fun w hw => spoilt_n _ (lineL (superB (supP n0 n1).toNat (supI n1).toNat (supC n2).toNat)) p F 0 512 w (row_rd (hw.row (i := 0) rfl) (by decide)) (by omega) (by decide) (by decide) (by omega)) Tryd.call39 rfl rfl (fun v11 => ?_)
  refine At.val (Val.assign rfl) rfl rfl rfl ?_
  refine At.nil ?_
  refine At.thenN ?_
  refine At.seq ?_
  refine At.region ?_
  refine At.val (Val.move rfl) rfl rfl rfl ?_
  refine At.val (Val.loadAll (i := 8) Tryd.isAgg50 Tryd.sizeOf50 rfl rfl rfl) rfl rfl rfl ?_
  refine At.callN (fun w hw => spoilt_n _ (lineL (superB (supP n0 n1).toNat (supI n1).toNat (supC n2).toNat)) r D 0 512 w (row_rd (hw.row (i := 1) rfl) (by decide)) (by omega) (by decide) (by decide) (by omega)) Tryd.call39 rfl rfl (fun v12 => ?_)
  refine At.val (Val.assign rfl) rfl rfl rfl ?_
  refine At.nil ?_
  refine At.thenN ?_
  refine At.seq ?_
  refine At.seq ?_
  refine At.region ?_
  refine At.val (Val.assign rfl) rfl rfl rfl ?_
  refine At.nil ?_
  refine At.thenN ?_
  refine At.block ?_
  skip
  refine At.drop 11 ?_
  simp only [List.eraseIdx_cons_zero, List.eraseIdx_cons_succ]
  refine At.drop 8 ?_
  simp only [List.eraseIdx_cons_zero, List.eraseIdx_cons_succ]
  refine At.drop 7 ?_
  simp only [List.eraseIdx_cons_zero, List.eraseIdx_cons_succ]
  refine At.drop 5 ?_
  simp only [List.eraseIdx_cons_zero, List.eraseIdx_cons_succ]
  refine At.drop 4 ?_
  simp only [List.eraseIdx_cons_zero, List.eraseIdx_cons_succ]
  refine At.drop 2 ?_
  simp only [List.eraseIdx_cons_zero, List.eraseIdx_cons_succ]
  refine At.loop (σ := Nat) (fun k => k ≤ 64) (fun k => [(4, .pointer (some ⟨b2, 0, none⟩)), (5, .pointer (some ⟨b3, 0, none⟩)), (10, .pointer (some ⟨b6, 0, none⟩)), (15, v9), (17, v11), (18, v12), (19, .int .i64 (k : Int))]) (fun k => [rowR v12 5 1 (((spoilL (lineL (superB (supP n0 n1).toNat (supI n1).toNat (supC n2).toNat)) (0 + r % (512 - 32 - 0 + 1)).toNat D.toNat)).length) (((spoilL (lineL (superB (supP n0 n1).toNat (supI n1).toNat (supC n2).toNat)) (0 + r % (512 - 32 - 0 + 1)).toNat D.toNat)).map bv), rowR v11 5 1 (((spoilL (lineL (superB (supP n0 n1).toNat (supI n1).toNat (supC n2).toNat)) (0 + p % (512 - 32 - 0 + 1)).toNat F.toNat)).length) (((spoilL (lineL (superB (supP n0 n1).toNat (supI n1).toNat (supC n2).toNat)) (0 + p % (512 - 32 - 0 + 1)).toNat F.toNat)).map bv), rowR v9 5 1 ((imgK (spoilL (lineL (superB (supP n0 n1).toNat (supI n1).toNat (supC n2).toNat)) (0 + p % (512 - 32 - 0 + 1)).toNat F.toNat) (spoilL (lineL (superB (supP n0 n1).toNat (supI n1).toNat (supC n2).toNat)) (0 + r % (512 - 32 - 0 + 1)).toNat D.toNat) (512 * (supP n0 n1).toNat - 128) k).length) ((imgK (spoilL (lineL (superB (supP n0 n1).toNat (supI n1).toNat (supC n2).toNat)) (0 + p % (512 - 32 - 0 + 1)).toNat F.toNat) (spoilL (lineL (superB (supP n0 n1).toNat (supI n1).toNat (supC n2).toNat)) (0 + r % (512 - 32 - 0 + 1)).toNat D.toNat) (512 * (supP n0 n1).toNat - 128) k).map bv), blk b6 25 ([.int .i64 (supP n0 n1), .int .i64 (supI n1), .int .i64 (supC n2), .int .i64 (4 + (supI n1) / 8)]), blk b3 50 ([.int .i64 r, b32 D]), blk b2 50 ([.int .i64 p, b32 F])]) (fun k => 64 - k) 0 (by omega) (Sub.cons rfl (Sub.cons rfl (Sub.cons rfl (Sub.cons rfl (Sub.cons rfl (Sub.cons rfl (Sub.cons rfl Sub.nil))))))) (by rw [img_zero (spoilL (lineL (superB (supP n0 n1).toNat (supI n1).toNat (supC n2).toNat)) (0 + p % (512 - 32 - 0 + 1)).toNat F.toNat) (spoilL (lineL (superB (supP n0 n1).toNat (supI n1).toNat (supC n2).toNat)) (0 + r % (512 - 32 - 0 + 1)).toNat D.toNat) (m := 512 * (supP n0 n1).toNat) (by omega)]) ?_
  intro k hs
  refine At.seq ?_
  refine At.seq ?_
  refine At.region ?_
  refine At.val (Val.move rfl) rfl rfl rfl ?_
  refine At.val (Val.bin rfl rfl rfl) rfl rfl rfl ?_
  refine At.nil ?_
  refine At.thenN ?_
  refine At.cond rfl (fun h13 => ?_) (fun h13 => ?_)
  · skip
    try simp only [vN_T, vN_F, nmE_T, nmE_F, wI_T, wI_F, data_T, data_F, ino_T, ino_F, notT, notF, bneT, bneF, beqT, beqF, decT, decF] at h13
    have hk : k < 64 := by omega
    have himg : (imgK (spoilL (lineL (superB (supP n0 n1).toNat (supI n1).toNat (supC n2).toNat)) (0 + p % (512 - 32 - 0 + 1)).toNat F.toNat) (spoilL (lineL (superB (supP n0 n1).toNat (supI n1).toNat (supC n2).toNat)) (0 + r % (512 - 32 - 0 + 1)).toNat D.toNat) (512 * (supP n0 n1).toNat - 128) k).length = 128 + (512 * (supP n0 n1).toNat - 128) := img_length hf1 hf2 k
    refine At.skipC ?_
    refine At.thenN ?_
    refine At.seq ?_
    refine At.block ?_
    refine At.seq ?_
    refine At.region ?_
    refine At.val (Val.move rfl) rfl rfl rfl ?_
    refine At.val (Val.move rfl) rfl rfl rfl ?_
    refine At.val (Val.move rfl) rfl rfl rfl ?_
    refine At.val (Val.move rfl) rfl rfl rfl ?_
    refine At.idxRowB (i := 1) rfl Tryd.underlying54 Tryd.sizeOf5 rfl rfl (by omega) (by omega) rfl rfl (fun q14 hq15 hl16 => ?_)
    refine At.val (Val.loadRowB (i := 1) Tryd.isAgg5 rfl rfl hq15) rfl rfl rfl ?_
    refine At.idxRowB (i := 2) rfl Tryd.underlying54 Tryd.sizeOf5 rfl rfl (by omega) (by omega) rfl rfl (fun q17 hq18 hl19 => ?_)
    refine At.storeRowB (i := 2) Tryd.sizeOf5 rfl rfl rfl (by omega) ?_
    simp only [List.set_cons_zero, List.set_cons_succ]
    rw [show ((k : Nat) : Int).toNat = k from Int.toNat_natCast _]
    have hs1 : ((imgK (spoilL (lineL (superB (supP n0 n1).toNat (supI n1).toNat (supC n2).toNat)) (0 + p % (512 - 32 - 0 + 1)).toNat F.toNat) (spoilL (lineL (superB (supP n0 n1).toNat (supI n1).toNat (supC n2).toNat)) (0 + r % (512 - 32 - 0 + 1)).toNat D.toNat) (512 * (supP n0 n1).toNat - 128) k).set k q14).length = 128 + (512 * (supP n0 n1).toNat - 128) := by rw [List.length_set, himg]
    refine At.nil ?_
    refine At.thenN ?_
    refine At.region ?_
    refine At.val (Val.move rfl) rfl rfl rfl ?_
    refine At.val (Val.move rfl) rfl rfl rfl ?_
    first | refine At.val (Val.addI rfl rfl (by omega) (by omega)) rfl rfl rfl ?_ | refine At.val (Val.bin rfl rfl rfl) rfl rfl rfl ?_
    refine At.val (Val.move rfl) rfl rfl rfl ?_
    refine At.val (Val.move rfl) rfl rfl rfl ?_
    refine At.idxRowB (i := 0) rfl Tryd.underlying54 Tryd.sizeOf5 rfl rfl (by omega) (by omega) rfl rfl (fun q20 hq21 hl22 => ?_)
    refine At.val (Val.loadRowB (i := 0) Tryd.isAgg5 rfl rfl hq21) rfl rfl rfl ?_
    refine At.idxRowB (i := 2) rfl Tryd.underlying54 Tryd.sizeOf5 rfl rfl (by omega) (by omega) rfl rfl (fun q23 hq24 hl25 => ?_)
    refine At.storeRowB (i := 2) Tryd.sizeOf5 rfl rfl rfl (by omega) ?_
    simp only [List.set_cons_zero, List.set_cons_succ]
    rw [show (64 + ((k : Nat) : Int)).toNat = 64 + k from by omega, img_step hf1 hf2 (by have := hq15; rwa [Int.toNat_natCast] at this) (by have := hq21; rwa [Int.toNat_natCast] at this)]
    refine At.nil ?_
    refine At.blkN ?_
    refine At.thenN ?_
    refine At.region ?_
    refine At.val (Val.move rfl) rfl rfl rfl ?_
    first | refine At.val (Val.addI rfl rfl (by omega) (by omega)) rfl rfl rfl ?_ | refine At.val (Val.bin rfl rfl rfl) rfl rfl rfl ?_
    refine At.val (Val.assign rfl) rfl rfl rfl ?_
    refine At.nil ?_
    refine At.thenN ?_
    exact At.again (k + 1) (by omega) (by omega) (Sub.cons rfl (Sub.cons rfl (Sub.cons rfl (Sub.cons rfl (Sub.cons rfl (Sub.cons rfl (Sub.cons (congrArg (fun z => some (Value.int IntKind.i64 z)) (by omega)) Sub.nil))))))) (List.Perm.refl _)
  · skip
    try simp only [vN_T, vN_F, nmE_T, nmE_F, wI_T, wI_F, data_T, data_F, ino_T, ino_F, notT, notF, bneT, bneF, beqT, beqF, decT, decF] at h13
    obtain rfl : k = 64 := by omega
    rw [img_all hf1 hf2]
    refine At.exitC ?_
    refine At.thenX ?_
    refine At.thenX ?_
    refine At.blkX ?_
    refine At.thenN ?_
    refine At.seq ?_
    refine At.region ?_
    refine At.val (Val.move rfl) rfl rfl rfl ?_
    refine At.callP (fun w hw => (by have := findI_p _ ((spoilL (lineL (superB (supP n0 n1).toNat (supI n1).toNat (supC n2).toNat)) (0 + p % (512 - 32 - 0 + 1)).toNat F.toNat) ++ ((spoilL (lineL (superB (supP n0 n1).toNat (supI n1).toNat (supC n2).toNat)) (0 + r % (512 - 32 - 0 + 1)).toNat D.toNat) ++ zs (512 * (supP n0 n1).toNat - 128))) w (ht.mod hw.mod) (row_rd (hw.row (i := 2) rfl) (by decide)) (by rw [himg0]; omega); rwa [find_img hg (by omega) hf1 hf2 (Or.inr ⟨spoil_told hL hwh hF32 F.isLt (by omega), by rw [show D.toNat = 0 from by rw [h2]; rfl, spoilL_zero]⟩)] at this)) Tryd.call34 rfl rfl ?_
    refine At.val (Val.move rfl) rfl rfl rfl ?_
    refine At.val (Val.extract rfl rfl) rfl rfl rfl ?_
    refine At.val (Val.extract rfl rfl) rfl rfl rfl ?_
    refine At.alloc Tryd.zeroValue25 rfl rfl (fun b26 => ?_)
    refine At.storeAll (i := 0) Tryd.sizeOf25 rfl rfl rfl (by simp [Value.oneCell']) rfl rfl ?_
    simp only [List.set_cons_zero, List.set_cons_succ]
    refine At.val (Val.assign rfl) rfl rfl rfl ?_
    refine At.nil ?_
    refine At.thenN ?_
    refine At.seq ?_
    refine At.seq ?_
    refine At.region ?_
    refine At.val (Val.field 1 rfl fo_50_1 rfl) rfl rfl rfl ?_
    refine At.val (Val.load (i := 6) Tryd.isAgg48 rfl rfl rfl) rfl rfl rfl ?_
    refine At.val (Val.bin rfl rfl rfl) rfl rfl rfl ?_
    rw [fz_F h1]
    refine At.val (Val.move rfl) rfl rfl rfl ?_
    refine At.yes rfl rfl ?_
    refine At.val (Val.field 1 rfl fo_50_1 rfl) rfl rfl rfl ?_
    refine At.yes rfl rfl ?_
    refine At.val (Val.load (i := 5) Tryd.isAgg48 rfl rfl rfl) rfl rfl rfl ?_
    refine At.yes rfl rfl ?_
    refine At.val (Val.bin rfl rfl rfl) rfl rfl rfl ?_
    rw [fz_T h2]
    refine At.val (Val.pickF rfl rfl) rfl rfl rfl ?_
    refine At.nil ?_
    refine At.thenN ?_
    refine At.condT rfl ?_
    refine At.seq ?_
    refine At.seq ?_
    refine At.region ?_
    refine At.val (Val.move rfl) rfl rfl rfl ?_
    refine At.val (Val.bin rfl rfl rfl) rfl rfl rfl ?_
    refine At.val (Val.move rfl) rfl rfl rfl ?_
    refine At.yes rfl rfl ?_
    refine At.val (Val.loadAll (i := 0) Tryd.isAgg25 Tryd.sizeOf25 rfl rfl rfl) rfl rfl rfl ?_
    refine At.yes rfl rfl ?_
    refine At.val (Val.loadAll (i := 4) Tryd.isAgg25 Tryd.sizeOf25 rfl rfl rfl) rfl rfl rfl ?_
    refine At.yes rfl rfl ?_
    refine At.val (Val.neAgg (b := true) Tryd.eqGuardType25 (fun w => by simpa using eq_25 (supP n0 n1) (supI n1) (supC n2) (4 + (supI n1) / 8) (supP n0 n1) (supI n1) (supC n2) (4 + (supI n1) / 8) w) rfl rfl) rfl rfl rfl ?_
    refine At.val (Val.pickF rfl rfl) rfl rfl rfl ?_
    refine At.nil ?_
    refine At.thenN ?_
    refine At.condF rfl ?_
    refine At.skipC ?_
    refine At.thenN ?_
    refine At.seq ?_
    refine At.region ?_
    refine At.val (Val.move rfl) rfl rfl rfl ?_
    refine At.val (Val.move rfl) rfl rfl rfl ?_
    refine At.val (Val.lenRow (i := 3) Tryd.underlying54 rfl rfl) rfl rfl rfl ?_
    refine At.val (Val.subI rfl rfl (by omega) (by omega)) rfl rfl rfl ?_
    refine At.rowIs (i := 3) rfl (fun A27 c28 hv => ?_)
    subst hv
    refine At.val (Val.cutRow (i := 3) (l := 0) (h := 512 * (supP n0 n1).toNat - 512) rfl (by decide) Tryd.underlying54 Tryd.sizeOf5 rfl rfl ⟨_, _, rfl, by omega, by omega⟩ (by omega) (by omega)) rfl rfl rfl ?_
    refine At.callP (fun w hw => (by have := findI_p _ _ w (ht.mod hw.mod) (RdB.cut (l := 0) (h := 512 * (supP n0 n1).toNat - 512) (row_rd (hw.row (i := 3) rfl) (by decide)) (by omega) (by omega)) (by rw [List.length_take, List.length_drop, himg0]; omega); rwa [show (((spoilL (lineL (superB (supP n0 n1).toNat (supI n1).toNat (supC n2).toNat)) (0 + p % (512 - 32 - 0 + 1)).toNat F.toNat) ++ ((spoilL (lineL (superB (supP n0 n1).toNat (supI n1).toNat (supC n2).toNat)) (0 + r % (512 - 32 - 0 + 1)).toNat D.toNat) ++ zs (512 * (supP n0 n1).toNat - 128))).drop 0).take (512 * (supP n0 n1).toNat - 512 - 0) = ((spoilL (lineL (superB (supP n0 n1).toNat (supI n1).toNat (supC n2).toNat)) (0 + p % (512 - 32 - 0 + 1)).toNat F.toNat) ++ ((spoilL (lineL (superB (supP n0 n1).toNat (supI n1).toNat (supC n2).toNat)) (0 + r % (512 - 32 - 0 + 1)).toNat D.toNat) ++ zs (512 * (supP n0 n1).toNat - 128))).take (512 * (supP n0 n1).toNat - 512) from by rw [List.drop_zero, Nat.sub_zero], find_short hg (by omega) hf1 hf2 (Or.inr (spoil_told hL hwh hF32 F.isLt (by omega))) (Or.inl (by rw [show D.toNat = 0 from by rw [h2]; rfl, spoilL_zero]))] at this)) Tryd.call34 rfl rfl ?_
    refine At.val (Val.move rfl) rfl rfl rfl ?_
    refine At.val (Val.extract rfl rfl) rfl rfl rfl ?_
    refine At.val (Val.extract rfl rfl) rfl rfl rfl ?_
    refine At.alloc Tryd.zeroValue25 rfl rfl (fun b29 => ?_)
    refine At.storeAll (i := 0) Tryd.sizeOf25 rfl rfl rfl (by simp [Value.oneCell']) rfl rfl ?_
    simp only [List.set_cons_zero, List.set_cons_succ]
    refine At.val (Val.assign rfl) rfl rfl rfl ?_
    refine At.nil ?_
    refine At.thenN ?_
    refine At.seq ?_
    refine At.region ?_
    refine At.val (Val.move rfl) rfl rfl rfl ?_
    refine At.val (Val.bin rfl rfl rfl) rfl rfl rfl ?_
    refine At.val (Val.assign rfl) rfl rfl rfl ?_
    refine At.nil ?_
    refine At.thenN ?_
    refine At.retC ?_
    refine At.thenR ?_
    refine At.ret1 (.inl rfl) rfl rfl rfl (fun w hw => ?_)
    exact ⟨retB (by first | rfl | simp), hw.mod⟩

theorem lawSH_FF (n0 n1 n2 p r : Int) (F D : BitVec 32) (w : World) (ht : Tab w) (h1 : ¬ F = 0) (h2 : ¬ D = 0) :
    PureC Tryd.prog 8 [.agg #[.int .i64 n0, .int .i64 n1, .int .i64 n2], .agg #[.int .i64 p, b32 F], .agg #[.int .i64 r, b32 D]] (.bool true) w := by
  refine enter0 Tryd.func8 rfl Tryd.ntmps8 rfl ?_
  have hg := sup_good n0 n1 n2
  have hg' := hg
  unfold GoodSup at hg'
  have ok := super_ok hg
  have hL : (lineL (superB (supP n0 n1).toNat (supI n1).toNat (supC n2).toNat)).length = 64 := lineL_length (by rw [superB_length]; decide)
  have hwh := sup_whole hL ok.1
  have hf1 : (spoilL (lineL (superB (supP n0 n1).toNat (supI n1).toNat (supC n2).toNat)) (0 + p % (512 - 32 - 0 + 1)).toNat F.toNat).length = 64 := by rw [spoilL_length, hL]
  have hf2 : (spoilL (lineL (superB (supP n0 n1).toNat (supI n1).toNat (supC n2).toNat)) (0 + r % (512 - 32 - 0 + 1)).toNat D.toNat).length = 64 := by rw [spoilL_length, hL]
  have himg0 : ((spoilL (lineL (superB (supP n0 n1).toNat (supI n1).toNat (supC n2).toNat)) (0 + p % (512 - 32 - 0 + 1)).toNat F.toNat) ++ ((spoilL (lineL (superB (supP n0 n1).toNat (supI n1).toNat (supC n2).toNat)) (0 + r % (512 - 32 - 0 + 1)).toNat D.toNat) ++ zs (512 * (supP n0 n1).toNat - 128))).length = 512 * (supP n0 n1).toNat := by rw [List.length_append, List.length_append, zs_length, hf1, hf2]; omega
  have hF32 : F.toNat ≠ 0 := fun e => h1 (BitVec.eq_of_toNat_eq e)
  have hD32 : D.toNat ≠ 0 := fun e => h2 (BitVec.eq_of_toNat_eq e)
  simp only [envOf]
  refine At.seq ?_
  refine At.region ?_
  refine At.box rfl rfl rfl (fun b1 => ?_)
  refine At.box rfl rfl rfl (fun b2 => ?_)
  refine At.box rfl rfl rfl (fun b3 => ?_)
  refine At.val (Val.assign rfl) rfl rfl rfl ?_
  refine At.nil ?_
  refine At.thenN ?_
  refine At.seq ?_
  refine At.region ?_
  refine At.val (Val.indexArr 0 rfl Tryd.underlying59 Tryd.sizeOf3 rfl rfl (by decide) (by decide)) rfl rfl rfl ?_
  refine At.val (Val.load (i := 2) Tryd.isAgg3 rfl rfl rfl) rfl rfl rfl ?_
  refine At.val (Val.indexArr 1 rfl Tryd.underlying59 Tryd.sizeOf3 rfl rfl (by decide) (by decide)) rfl rfl rfl ?_
  refine At.val (Val.load (i := 2) Tryd.isAgg3 rfl rfl rfl) rfl rfl rfl ?_
  refine At.val (Val.indexArr 2 rfl Tryd.underlying59 Tryd.sizeOf3 rfl rfl (by decide) (by decide)) rfl rfl rfl ?_
  refine At.val (Val.load (i := 2) Tryd.isAgg3 rfl rfl rfl) rfl rfl rfl ?_
  refine At.callP (fun w hw => super_p n0 n1 n2 w) Tryd.call37 rfl rfl ?_
  refine At.alloc Tryd.zeroValue23 rfl rfl (fun b4 => ?_)
  refine At.storeAll (i := 0) Tryd.sizeOf23 rfl rfl rfl (by simp [Value.oneCell']) rfl rfl ?_
  simp only [List.set_cons_zero, List.set_cons_succ]
  refine At.nil ?_
  refine At.thenN ?_
  refine At.seq ?_
  refine At.region ?_
  refine At.val (Val.loadAll (i := 0) Tryd.isAgg23 Tryd.sizeOf23 rfl rfl rfl) rfl rfl rfl ?_
  refine At.callP (fun w hw => (by have := fit_p (supP n0 n1) (supI n1) (supC n2) w; rwa [fit_yes hg] at this)) Tryd.call20 rfl rfl ?_
  refine At.val (Val.move rfl) rfl rfl rfl ?_
  refine At.val (Val.extract rfl rfl) rfl rfl rfl ?_
  refine At.val (Val.extract rfl rfl) rfl rfl rfl ?_
  refine At.alloc Tryd.zeroValue25 rfl rfl (fun b5 => ?_)
  refine At.storeAll (i := 0) Tryd.sizeOf25 rfl rfl rfl (by simp [Value.oneCell']) rfl rfl ?_
  simp only [List.set_cons_zero, List.set_cons_succ]
  refine At.val (Val.assign rfl) rfl rfl rfl ?_
  refine At.nil ?_
  refine At.thenN ?_
  refine At.seq ?_
  refine At.region ?_
  refine At.val (Val.field 0 rfl fo_23_0 rfl) rfl rfl rfl ?_
  refine At.val (Val.load (i := 1) Tryd.isAgg3 rfl rfl rfl) rfl rfl rfl ?_
  refine At.val (Val.field 1 rfl fo_23_1 rfl) rfl rfl rfl ?_
  refine At.val (Val.load (i := 1) Tryd.isAgg3 rfl rfl rfl) rfl rfl rfl ?_
  refine At.val (Val.field 2 rfl fo_23_2 rfl) rfl rfl rfl ?_
  refine At.val (Val.load (i := 1) Tryd.isAgg3 rfl rfl rfl) rfl rfl rfl ?_
  refine At.val (Val.field 1 rfl fo_23_1 rfl) rfl rfl rfl ?_
  refine At.val (Val.load (i := 1) Tryd.isAgg3 rfl rfl rfl) rfl rfl rfl ?_
  first | refine At.val (Val.quoI rfl rfl (by omega) (by omega) (by decide)) rfl rfl rfl ?_ | refine At.val (Val.quo rfl rfl (by decide)) rfl rfl rfl ?_
  first | refine At.val (Val.addI rfl rfl (by omega) (by omega)) rfl rfl rfl ?_ | refine At.val (Val.bin rfl rfl rfl) rfl rfl rfl ?_
  refine At.val (Val.build (fun a ha => by simp only [List.map_toArray, List.map_cons, List.map_nil, ha.eval (x := (.tmp 37)) rfl, ha.eval (x := (.tmp 39)) rfl, ha.eval (x := (.tmp 41)) rfl, ha.eval (x := (.tmp 45)) rfl] <;> rfl) (bld_25_0_1_2_3 _ _ _ _ )) rfl rfl rfl ?_
  refine At.alloc Tryd.zeroValue25 rfl rfl (fun b6 => ?_)
  refine At.storeAll (i := 0) Tryd.sizeOf25 rfl rfl rfl (by simp [Value.oneCell']) rfl rfl ?_
  simp only [List.set_cons_zero, List.set_cons_succ]
  refine At.nil ?_
  refine At.thenN ?_
  refine At.seq ?_
  refine At.seq ?_
  refine At.region ?_
  refine At.val (Val.move rfl) rfl rfl rfl ?_
  refine At.val (Val.bin rfl rfl rfl) rfl rfl rfl ?_
  refine At.val (Val.move rfl) rfl rfl rfl ?_
  refine At.yes rfl rfl ?_
  refine At.val (Val.loadAll (i := 1) Tryd.isAgg25 Tryd.sizeOf25 rfl rfl rfl) rfl rfl rfl ?_
  refine At.yes rfl rfl ?_
  refine At.val (Val.loadAll (i := 0) Tryd.isAgg25 Tryd.sizeOf25 rfl rfl rfl) rfl rfl rfl ?_
  refine At.yes rfl rfl ?_
  refine At.val (Val.neAgg (b := true) Tryd.eqGuardType25 (fun w => by simpa using eq_25 (supP n0 n1) (supI n1) (supC n2) (4 + (supI n1) / 8) (supP n0 n1) (supI n1) (supC n2) (4 + (supI n1) / 8) w) rfl rfl) rfl rfl rfl ?_
  refine At.val (Val.pickF rfl rfl) rfl rfl rfl ?_
  refine At.nil ?_
  refine At.thenN ?_
  refine At.condF rfl ?_
  refine At.skipC ?_
  refine At.thenN ?_
  refine At.seq ?_
  refine At.region ?_
  refine At.val (Val.loadAll (i := 2) Tryd.isAgg23 Tryd.sizeOf23 rfl rfl rfl) rfl rfl rfl ?_
  refine At.callP (fun w hw => (by have := packSup_p (supP n0 n1) (supI n1) (supC n2) w (ht.mod hw.mod); rwa [packSup_yes hg] at this)) Tryd.call22 rfl rfl ?_
  refine At.val (Val.move rfl) rfl rfl rfl ?_
  refine At.val (Val.extract rfl rfl) rfl rfl rfl ?_
  refine At.val (Val.extract rfl rfl) rfl rfl rfl ?_
  refine At.alloc zero_30 zc_30 rfl (fun b7 => ?_)
  refine At.storeAll (i := 0) Tryd.sizeOf30 rfl rfl (by rw [List.length_map]; exact hL) (by simp [Value.oneCell']) rfl (by simp) ?_
  simp only [List.set_cons_zero, List.set_cons_succ]
  refine At.val (Val.assign rfl) rfl rfl rfl ?_
  refine At.nil ?_
  refine At.thenN ?_
  refine At.seq ?_
  refine At.region ?_
  refine At.val (Val.loadAll (i := 0) Tryd.isAgg30 Tryd.sizeOf30 rfl rfl (by rw [List.length_map]; exact hL)) rfl rfl rfl ?_
  refine At.callP (fun w hw => (by have := openSup_p (lineL (superB (supP n0 n1).toNat (supI n1).toNat (supC n2).toNat)) w (ht.mod hw.mod) hL; rwa [openSup_yes ok.1, ok.2.1, ok.2.2.1, ok.2.2.2] at this)) Tryd.call26 rfl rfl ?_
  refine At.val (Val.move rfl) rfl rfl rfl ?_
  refine At.val (Val.extract rfl rfl) rfl rfl rfl ?_
  refine At.val (Val.extract rfl rfl) rfl rfl rfl ?_
  refine At.alloc Tryd.zeroValue23 rfl rfl (fun b8 => ?_)
  refine At.storeAll (i := 0) Tryd.sizeOf23 rfl rfl rfl (by simp [Value.oneCell']) rfl rfl ?_
  simp only [List.set_cons_zero, List.set_cons_succ]
  refine At.val (Val.assign rfl) rfl rfl rfl ?_
  refine At.nil ?_
  refine At.thenN ?_
  refine At.seq ?_
  refine At.seq ?_
  refine At.region ?_
  refine At.val (Val.move rfl) rfl rfl rfl ?_
  refine At.val (Val.bin rfl rfl rfl) rfl rfl rfl ?_
  refine At.val (Val.move rfl) rfl rfl rfl ?_
  refine At.yes rfl rfl ?_
  refine At.val (Val.move rfl) rfl rfl rfl ?_
  refine At.yes rfl rfl ?_
  refine At.val (Val.bin rfl rfl rfl) rfl rfl rfl ?_
  refine At.val (Val.pickF rfl rfl) rfl rfl rfl ?_
  refine At.val (Val.move rfl) rfl rfl rfl ?_
  refine At.yes rfl rfl ?_
  refine At.val (Val.loadAll (i := 0) Tryd.isAgg23 Tryd.sizeOf23 rfl rfl rfl) rfl rfl rfl ?_
  refine At.yes rfl rfl ?_
  refine At.val (Val.loadAll (i := 4) Tryd.isAgg23 Tryd.sizeOf23 rfl rfl rfl) rfl rfl rfl ?_
  refine At.yes rfl rfl ?_
  refine At.val (Val.neAgg (b := true) Tryd.eqGuardType23 (fun w => by simpa using eq_23 (supP n0 n1) (supI n1) (supC n2) (supP n0 n1) (supI n1) (supC n2) w) rfl rfl) rfl rfl rfl ?_
  refine At.val (Val.pickF rfl rfl) rfl rfl rfl ?_
  refine At.nil ?_
  refine At.thenN ?_
  refine At.condF rfl ?_
  refine At.skipC ?_
  refine At.thenN ?_
  refine At.seq ?_
  refine At.region ?_
  refine At.val (Val.field 0 rfl fo_23_0 rfl) rfl rfl rfl ?_
  refine At.val (Val.load (i := 4) Tryd.isAgg3 rfl rfl rfl) rfl rfl rfl ?_
  refine At.val (Val.mulI rfl rfl (by omega) (by omega)) rfl rfl rfl ?_
  rw [show (512 : Int) * (supP n0 n1) = ((512 * (supP n0 n1).toNat : Nat) : Int) from by omega]
  refine At.makeRowB (n := 512 * (supP n0 n1).toNat) Tryd.underlying54 info_5 rfl rfl rfl rfl rfl (by omega) rfl (fun v9 => ?_)
  refine At.val (Val.assign rfl) rfl rfl rfl ?_
  refine At.nil ?_
  refine At.thenN ?_
  refine At.seq ?_
  refine At.region ?_
  refine At.val (Val.loadAll (i := 2) Tryd.isAgg30 Tryd.sizeOf30 rfl rfl (by rw [List.length_map]; exact hL)) rfl rfl rfl ?_
  refine At.callN (fun w hw => bytesOf_n (lineL (superB (supP n0 n1).toNat (supI n1).toNat (supC n2).toNat)) w hL) Tryd.call38 rfl rfl (fun v10 => ?_)
  refine At.val (Val.assign rfl) rfl rfl rfl ?_
  refine At.nil ?_
  refine At.thenN ?_
  refine At.seq ?_
  refine At.region ?_
  refine At.val (Val.move rfl) rfl rfl rfl ?_
  refine At.val (Val.loadAll (i := 8) Tryd.isAgg50 Tryd.sizeOf50 rfl rfl rfl) rfl rfl rfl ?_
  refine At.callN (fun w hw => spoilt_n _ (lineL (superB (supP n0 n1).toNat (supI n1).toNat (supC n2).toNat)) p F 0 512 w (row_rd (hw.row (i := 0) rfl) (by decide)) (by omega) (by decide) (by decide) (by omega)) Tryd.call39 rfl rfl (fun v11 => ?_)
  refine At.val (Val.assign rfl) rfl rfl rfl ?_
  refine At.nil ?_
  refine At.thenN ?_
  refine At.seq ?_
  refine At.region ?_
  refine At.val (Val.move rfl) rfl rfl rfl ?_
  refine At.val (Val.loadAll (i := 8) Tryd.isAgg50 Tryd.sizeOf50 rfl rfl rfl) rfl rfl rfl ?_
  refine At.callN (fun w hw => spoilt_n _ (lineL (superB (supP n0 n1).toNat (supI n1).toNat (supC n2).toNat)) r D 0 512 w (row_rd (hw.row (i := 1) rfl) (by decide)) (by omega) (by decide) (by decide) (by omega)) Tryd.call39 rfl rfl (fun v12 => ?_)
  refine At.val (Val.assign rfl) rfl rfl rfl ?_
  refine At.nil ?_
  refine At.thenN ?_
  refine At.seq ?_
  refine At.seq ?_
  refine At.region ?_
  refine At.val (Val.assign rfl) rfl rfl rfl ?_
  refine At.nil ?_
  refine At.thenN ?_
  refine At.block ?_
  skip
  refine At.drop 11 ?_
  simp only [List.eraseIdx_cons_zero, List.eraseIdx_cons_succ]
  refine At.drop 8 ?_
  simp only [List.eraseIdx_cons_zero, List.eraseIdx_cons_succ]
  refine At.drop 7 ?_
  simp only [List.eraseIdx_cons_zero, List.eraseIdx_cons_succ]
  refine At.drop 5 ?_
  simp only [List.eraseIdx_cons_zero, List.eraseIdx_cons_succ]
  refine At.drop 4 ?_
  simp only [List.eraseIdx_cons_zero, List.eraseIdx_cons_succ]
  refine At.drop 2 ?_
  simp only [List.eraseIdx_cons_zero, List.eraseIdx_cons_succ]
  refine At.loop (σ := Nat) (fun k => k ≤ 64) (fun k => [(4, .pointer (some ⟨b2, 0, none⟩)), (5, .pointer (some ⟨b3, 0, none⟩)), (10, .pointer (some ⟨b6, 0, none⟩)), (15, v9), (17, v11), (18, v12), (19, .int .i64 (k : Int))]) (fun k => [rowR v12 5 1 (((spoilL (lineL (superB (supP n0 n1).toNat (supI n1).toNat (supC n2).toNat)) (0 + r % (512 - 32 - 0 + 1)).toNat D.toNat)).length) (((spoilL (lineL (superB (supP n0 n1).toNat (supI n1).toNat (supC n2).toNat)) (0 + r % (512 - 32 - 0 + 1)).toNat D.toNat)).map bv), rowR v11 5 1 (((spoilL (lineL (superB (supP n0 n1).toNat (supI n1).toNat (supC n2).toNat)) (0 + p % (512 - 32 - 0 + 1)).toNat F.toNat)).length) (((spoilL (lineL (superB (supP n0 n1).toNat (supI n1).toNat (supC n2).toNat)) (0 + p % (512 - 32 - 0 + 1)).toNat F.toNat)).map bv), rowR v9 5 1 ((imgK (spoilL (lineL (superB (supP n0 n1).toNat (supI n1).toNat (supC n2).toNat)) (0 + p % (512 - 32 - 0 + 1)).toNat F.toNat) (spoilL (lineL (superB (supP n0 n1).toNat (supI n1).toNat (supC n2).toNat)) (0 + r % (512 - 32 - 0 + 1)).toNat D.toNat) (512 * (supP n0 n1).toNat - 128) k).length) ((imgK (spoilL (lineL (superB (supP n0 n1).toNat (supI n1).toNat (supC n2).toNat)) (0 + p % (512 - 32 - 0 + 1)).toNat F.toNat) (spoilL (lineL (superB (supP n0 n1).toNat (supI n1).toNat (supC n2).toNat)) (0 + r % (512 - 32 - 0 + 1)).toNat D.toNat) (512 * (supP n0 n1).toNat - 128) k).map bv), blk b6 25 ([.int .i64 (supP n0 n1), .int .i64 (supI n1), .int .i64 (supC n2), .int .i64 (4 + (supI n1) / 8)]), blk b3 50 ([.int .i64 r, b32 D]), blk b2 50 ([.int .i64 p, b32 F])]) (fun k => 64 - k) 0 (by omega) (Sub.cons rfl (Sub.cons rfl (Sub.cons rfl (Sub.cons rfl (Sub.cons rfl (Sub.cons rfl (Sub.cons rfl Sub.nil))))))) (by rw [img_zero (spoilL (lineL (superB (supP n0 n1).toNat (supI n1).toNat (supC n2).toNat)) (0 + p % (512 - 32 - 0 + 1)).toNat F.toNat) (spoilL (lineL (superB (supP n0 n1).toNat (supI n1).toNat (supC n2).toNat)) (0 + r % (512 - 32 - 0 + 1)).toNat D.toNat) (m := 512 * (supP n0 n1).toNat) (by omega)]) ?_
  intro k hs
  refine At.seq ?_
  refine At.seq ?_
  refine At.region ?_
  refine At.val (Val.move rfl) rfl rfl rfl ?_
  refine At.val (Val.bin rfl rfl rfl) rfl rfl rfl ?_
  refine At.nil ?_
  refine At.thenN ?_
  refine At.cond rfl (fun h13 => ?_) (fun h13 => ?_)
  · skip
    try simp only [vN_T, vN_F, nmE_T, nmE_F, wI_T, wI_F, data_T, data_F, ino_T, ino_F, notT, notF, bneT, bneF, beqT, beqF, decT, decF] at h13
    have hk : k < 64 := by omega
    have himg : (imgK (spoilL (lineL (superB (supP n0 n1).toNat (supI n1).toNat (supC n2).toNat)) (0 + p % (512 - 32 - 0 + 1)).toNat F.toNat) (spoilL (lineL (superB (supP n0 n1).toNat (supI n1).toNat (supC n2).toNat)) (0 + r % (512 - 32 - 0 + 1)).toNat D.toNat) (512 * (supP n0 n1).toNat - 128) k).length = 128 + (512 * (supP n0 n1).toNat - 128) := img_length hf1 hf2 k
    refine At.skipC ?_
    refine At.thenN ?_
    refine At.seq ?_
    refine At.block ?_
    refine At.seq ?_
    refine At.region ?_
    refine At.val (Val.move rfl) rfl rfl rfl ?_
    refine At.val (Val.move rfl) rfl rfl rfl ?_
    refine At.val (Val.move rfl) rfl rfl rfl ?_
    refine At.val (Val.move rfl) rfl rfl rfl ?_
    refine At.idxRowB (i := 1) rfl Tryd.underlying54 Tryd.sizeOf5 rfl rfl (by omega) (by omega) rfl rfl (fun q14 hq15 hl16 => ?_)
    refine At.val (Val.loadRowB (i := 1) Tryd.isAgg5 rfl rfl hq15) rfl rfl rfl ?_
    refine At.idxRowB (i := 2) rfl Tryd.underlying54 Tryd.sizeOf5 rfl rfl (by omega) (by omega) rfl rfl (fun q17 hq18 hl19 => ?_)
    refine At.storeRowB (i := 2) Tryd.sizeOf5 rfl rfl rfl (by omega) ?_
    simp only [List.set_cons_zero, List.set_cons_succ]
    rw [show ((k : Nat) : Int).toNat = k from Int.toNat_natCast _]
    have hs1 : ((imgK (spoilL (lineL (superB (supP n0 n1).toNat (supI n1).toNat (supC n2).toNat)) (0 + p % (512 - 32 - 0 + 1)).toNat F.toNat) (spoilL (lineL (superB (supP n0 n1).toNat (supI n1).toNat (supC n2).toNat)) (0 + r % (512 - 32 - 0 + 1)).toNat D.toNat) (512 * (supP n0 n1).toNat - 128) k).set k q14).length = 128 + (512 * (supP n0 n1).toNat - 128) := by rw [List.length_set, himg]
    refine At.nil ?_
    refine At.thenN ?_
    refine At.region ?_
    refine At.val (Val.move rfl) rfl rfl rfl ?_
    refine At.val (Val.move rfl) rfl rfl rfl ?_
    first | refine At.val (Val.addI rfl rfl (by omega) (by omega)) rfl rfl rfl ?_ | refine At.val (Val.bin rfl rfl rfl) rfl rfl rfl ?_
    refine At.val (Val.move rfl) rfl rfl rfl ?_
    refine At.val (Val.move rfl) rfl rfl rfl ?_
    refine At.idxRowB (i := 0) rfl Tryd.underlying54 Tryd.sizeOf5 rfl rfl (by omega) (by omega) rfl rfl (fun q20 hq21 hl22 => ?_)
    refine At.val (Val.loadRowB (i := 0) Tryd.isAgg5 rfl rfl hq21) rfl rfl rfl ?_
    refine At.idxRowB (i := 2) rfl Tryd.underlying54 Tryd.sizeOf5 rfl rfl (by omega) (by omega) rfl rfl (fun q23 hq24 hl25 => ?_)
    refine At.storeRowB (i := 2) Tryd.sizeOf5 rfl rfl rfl (by omega) ?_
    simp only [List.set_cons_zero, List.set_cons_succ]
    rw [show (64 + ((k : Nat) : Int)).toNat = 64 + k from by omega, img_step hf1 hf2 (by have := hq15; rwa [Int.toNat_natCast] at this) (by have := hq21; rwa [Int.toNat_natCast] at this)]
    refine At.nil ?_
    refine At.blkN ?_
    refine At.thenN ?_
    refine At.region ?_
    refine At.val (Val.move rfl) rfl rfl rfl ?_
    first | refine At.val (Val.addI rfl rfl (by omega) (by omega)) rfl rfl rfl ?_ | refine At.val (Val.bin rfl rfl rfl) rfl rfl rfl ?_
    refine At.val (Val.assign rfl) rfl rfl rfl ?_
    refine At.nil ?_
    refine At.thenN ?_
    exact At.again (k + 1) (by omega) (by omega) (Sub.cons rfl (Sub.cons rfl (Sub.cons rfl (Sub.cons rfl (Sub.cons rfl (Sub.cons rfl (Sub.cons (congrArg (fun z => some (Value.int IntKind.i64 z)) (by omega)) Sub.nil))))))) (List.Perm.refl _)
  · skip
    try simp only [vN_T, vN_F, nmE_T, nmE_F, wI_T, wI_F, data_T, data_F, ino_T, ino_F, notT, notF, bneT, bneF, beqT, beqF, decT, decF] at h13
    obtain rfl : k = 64 := by omega
    rw [img_all hf1 hf2]
    refine At.exitC ?_
    refine At.thenX ?_
    refine At.thenX ?_
    refine At.blkX ?_
    refine At.thenN ?_
    refine At.seq ?_
    refine At.region ?_
    refine At.val (Val.move rfl) rfl rfl rfl ?_
    refine At.callP (fun w hw => (by have := findI_p _ ((spoilL (lineL (superB (supP n0 n1).toNat (supI n1).toNat (supC n2).toNat)) (0 + p % (512 - 32 - 0 + 1)).toNat F.toNat) ++ ((spoilL (lineL (superB (supP n0 n1).toNat (supI n1).toNat (supC n2).toNat)) (0 + r % (512 - 32 - 0 + 1)).toNat D.toNat) ++ zs (512 * (supP n0 n1).toNat - 128))) w (ht.mod hw.mod) (row_rd (hw.row (i := 2) rfl) (by decide)) (by rw [himg0]; omega); rwa [find_spoilt hf1 hf2 (spoil_told hL hwh hF32 F.isLt (by omega)) (spoil_told hL hwh hD32 D.isLt (by omega))] at this)) Tryd.call34 rfl rfl ?_
    refine At.val (Val.move rfl) rfl rfl rfl ?_
    refine At.val (Val.extract rfl rfl) rfl rfl rfl ?_
    refine At.val (Val.extract rfl rfl) rfl rfl rfl ?_
    refine At.alloc Tryd.zeroValue25 rfl rfl (fun b26 => ?_)
    refine At.storeAll (i := 0) Tryd.sizeOf25 rfl rfl rfl (by simp [Value.oneCell']) rfl rfl ?_
    simp only [List.set_cons_zero, List.set_cons_succ]
    refine At.val (Val.assign rfl) rfl rfl rfl ?_
    refine At.nil ?_
    refine At.thenN ?_
    refine At.seq ?_
    refine At.seq ?_
    refine At.region ?_
    refine At.val (Val.field 1 rfl fo_50_1 rfl) rfl rfl rfl ?_
    refine At.val (Val.load (i := 6) Tryd.isAgg48 rfl rfl rfl) rfl rfl rfl ?_
    refine At.val (Val.bin rfl rfl rfl) rfl rfl rfl ?_
    rw [fz_F h1]
    refine At.val (Val.move rfl) rfl rfl rfl ?_
    refine At.yes rfl rfl ?_
    refine At.val (Val.field 1 rfl fo_50_1 rfl) rfl rfl rfl ?_
    refine At.yes rfl rfl ?_
    refine At.val (Val.load (i := 5) Tryd.isAgg48 rfl rfl rfl) rfl rfl rfl ?_
    refine At.yes rfl rfl ?_
    refine At.val (Val.bin rfl rfl rfl) rfl rfl rfl ?_
    rw [fz_F h2]
    refine At.val (Val.pickF rfl rfl) rfl rfl rfl ?_
    refine At.nil ?_
    refine At.thenN ?_
    refine At.condF rfl ?_
    refine At.skipC ?_
    refine At.thenN ?_
    refine At.seq ?_
    refine At.region ?_
    refine At.val (Val.move rfl) rfl rfl rfl ?_
    refine At.val (Val.bin rfl rfl rfl) rfl rfl rfl ?_
    refine At.val (Val.move rfl) rfl rfl rfl ?_
    refine At.yes rfl rfl ?_
    refine At.val (Val.loadAll (i := 0) Tryd.isAgg25 Tryd.sizeOf25 rfl rfl rfl) rfl rfl rfl ?_
    refine At.yes rfl rfl ?_
    refine At.val (Val.build (fun a ha => by simp only [List.map_toArray, List.map_cons, List.map_nil] <;> rfl) (bld_25_)) rfl rfl rfl ?_
    refine At.yes rfl rfl ?_
    refine At.val (Val.eqAgg (b := true) Tryd.eqGuardType25 (fun w => by simpa using eq_25 0 0 0 0 0 0 0 0 w) rfl rfl) rfl rfl rfl ?_
    refine At.val (Val.pickT rfl rfl) rfl rfl rfl ?_
    refine At.val (Val.assign rfl) rfl rfl rfl ?_
    refine At.nil ?_
    refine At.thenN ?_
    refine At.retC ?_
    refine At.ret1 (.inl rfl) rfl rfl rfl (fun w hw => ?_)
    exact ⟨retB (by first | rfl | simp), hw.mod⟩


theorem lawSH_p (n0 n1 n2 p r : Int) (F D : BitVec 32) (w : World) (ht : Tab w) : PureC Tryd.prog 8 [.agg #[.int .i64 n0, .int .i64 n1, .int .i64 n2], .agg #[.int .i64 p, b32 F], .agg #[.int .i64 r, b32 D]] (.bool true) w := by
  by_cases h1 : F = 0 <;> by_cases h2 : D = 0
  · exact lawSH_TT n0 n1 n2 p r F D w ht h1 h2
  · exact lawSH_TF n0 n1 n2 p r F D w ht h1 h2
  · exact lawSH_FT n0 n1 n2 p r F D w ht h1 h2
  · exact lawSH_FF n0 n1 n2 p r F D w ht h1 h2

end Go.Proofs.YtoiebgnmknbkjaaDoor
