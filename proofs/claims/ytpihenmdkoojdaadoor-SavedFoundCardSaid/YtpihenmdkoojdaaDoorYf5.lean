/- Parts of the proof, joined: see the law's text. -/
import Derived.Test.YtpihenmdkoojdaaDoorYf4
import Derived.Test.YtpihenmdkoojdaaDoorYf3
import Derived.Test.YtpihenmdkoojdaaDoorYf2
set_option linter.unusedVariables false
set_option linter.unusedSimpArgs false
namespace Go.Proofs.YtpihenmdkoojdaaDoor
open Go Go.Wk
theorem Off.cutS {A : Option Addr} {n c l m d sz : Nat} {L M : List (Int × Int)} {S : Nat → Prop} (h : Off (.slice A n c) (prS L) S) (hm : M.length ≤ L.length := by simp only [List.length_take, List.length_drop]; omega) : Off (.slice (cutA A c l sz) m d) (prS M) S := fun hne b o s n' c' hv hS => by
  have hL : prS L ≠ [] := fun e => hne (by
    have h1 := congrArg List.length e
    rw [prS_length] at h1
    exact List.eq_nil_of_length_eq_zero (by rw [prS_length]; simp only [List.length_nil] at h1; omega))
  match A, h, hv with
  | some ⟨b0, o0, s0⟩, h, hv =>
    unfold cutA at hv
    simp only [Value.slice.injEq, Option.some.injEq, Addr.mk.injEq] at hv
    obtain ⟨⟨rfl, _, _⟩, _⟩ := hv
    exact h hL _ _ _ _ _ rfl hS
  | none, _, hv => unfold cutA at hv; simp at hv
theorem growS_le (L : List (Int × Int)) : (growS L).length ≤ L.length + 1 := by
  unfold growS
  cases h : L.getLast? with
  | none => simp
  | some c => simp only [List.length_append, List.length_dropLast, List.length_singleton]; omega
theorem spOk_take {L : List (Int × Int)} (h : SpOk L) (k : Nat) : SpOk (L.take k) := by
  refine ⟨fun j c hj hc => ?_, Nat.le_trans (by rw [List.length_take]; omega) h.2⟩
  rw [List.getElem?_take] at hc
  by_cases hk : j < k
  · rw [if_pos hk] at hc
    have h1 := h.1 j c (List.getElem?_eq_some_iff.1 hc).1 hc
    rwa [show loAt (L.take k) j = loAt L j from by unfold loAt; rw [List.take_take, Nat.min_eq_left (by omega)]]
  · rw [if_neg hk] at hc; cases hc
theorem spOk_cut {L : List (Int × Int)} (h : SpOk L) (k : Nat) : SpOk ((L.drop 0).take (k - 0)) := spOk_take h k
theorem cut_ne {L : List (Int × Int)} (h : 0 < L.length) : L ≠ (L.drop 1).take (L.length - 1) := fun e => by
  have := congrArg List.length e
  rw [List.length_take, List.length_drop] at this
  omega
theorem save_x {σ : Ds} {vs : List (BitVec 64)} {L : List (Int × Int)} {p i c : Int} (hws : σ.ws = mkC vs) (ha : σ.armed = false) (hg : GoodSup p i c) (hl : (8 * vs.length : Nat) = 512 * p) (hsp : SpOk L) :
    ∃ (vs' : List (BitVec 64)) (t : BitVec 32), (saveE σ L).1 = true ∧ (saveE σ L).2.1 = 0 ∧ (saveE σ L).2.2.ws = mkC vs' ∧ (saveE σ L).2.2.armed = false ∧ vs'.length = vs.length ∧ vs'[16]? = some (sealC t) ∧ t ≠ 0 ∧ HasRec vs' t L ∧ GoodSv t L ∧ (∀ M, restE (wbytes vs') p i c (4 + i / 8) M = if L = M then 0 else 132) ∧ (saveE σ L).2.2.steps ≤ σ.steps + 160 := by
  have hg2 := hg
  unfold GoodSup at hg2
  obtain ⟨h1, h2, h3, h4, _⟩ := save_eff hws ha (by omega) hsp.1 hsp.2
  have hz : stampD σ ≠ 0 := fun e => nextT_0 (wbytes (viewWs σ.ws)) (by show (stampD σ).toNat = 0; rw [e]; rfl)
  have hq : GoodSv (stampD σ) L := ⟨fun e => nextT_0 (wbytes (viewWs σ.ws)) e, hsp.2, hsp.1⟩
  have hs := savedV_16 (t := stampD σ) (L := L) (vs := vs) (by omega)
  have hr := savedV_rec (t := stampD σ) (L := L) (vs := vs) (by omega) hsp.2
  have hl' := savedV_length vs (stampD σ) L
  exact ⟨_, _, h1, h2, h3, h4, hl', hs, hz, hr, hq, fun M => rest_img hg (by omega) hs hz hr hq, saveE_rest.2.1⟩
theorem forget_x {σ : Ds} {vs : List (BitVec 64)} {p i c : Int} (hws : σ.ws = mkC vs) (ha : σ.armed = false) (hg : GoodSup p i c) (hl : (8 * vs.length : Nat) = 512 * p) :
    ∃ vs' : List (BitVec 64), (actsE σ (cleanA 0)).1 = 0 ∧ (actsE σ (cleanA 0)).2.ws = mkC vs' ∧ (actsE σ (cleanA 0)).2.armed = false ∧ vs'.length = vs.length ∧ (∀ M, restE (wbytes vs') p i c (4 + i / 8) M = 130) := by
  have hg2 := hg
  unfold GoodSup at hg2
  obtain ⟨h1, h2, h3⟩ := forget_eff hws ha (by omega)
  have hl' := putV_length vs 16 [0]
  exact ⟨_, h1, h2, h3, hl', fun M => rest_none hg (by omega) (by
    have := putV_in (vs := vs) (k := 16) (i := 0) (xs := [0]) (x := 0) rfl (by simp only [List.length_singleton]; omega)
    exact this)⟩
theorem lawSavedFound_p (pg ino co lf : Int) (vM vW vL : Value) (MS : List Bool) (WS : List (Int × BitVec 64)) (cs : List Int) (w : World) (ht : Tab w) (hvM : Rd w vM 1 MS.length (MS.map Value.bool)) (hmM : MS.length ≤ 140737488355328) (hvW : RdP w vW WS) (hmW : WS.length ≤ 8796093022208) (hvL : RdI w vL cs) (hmL : cs.length ≤ 17592186044416) (hlf : -9223372036854775808 ≤ lf ∧ lf ≤ 9223372036854775807)  :
    PureC Tryd.prog 8 [.agg #[.int .i64 pg, .int .i64 ino, .int .i64 co, vM, vW, .int .i64 lf, vL]] (.bool true) w := by
 refine enter0 Tryd.func8 rfl Tryd.ntmps8 rfl ?_
 obtain ⟨S, hS⟩ : ∃ S, S = shV pg ino co := ⟨_, rfl⟩
 have hS' := shV_ok pg ino co
 rw [← hS] at hS'
 obtain ⟨P, I', C', D'⟩ := S
 dsimp only at hS'
 obtain ⟨hg, rfl⟩ := hS'
 have hg2 := hg
 unfold GoodSup at hg2
 obtain ⟨N, hN⟩ : ∃ N : Nat, 8 * (N : Int) = 512 * P := ⟨(64 * P).toNat, by omega⟩
 obtain ⟨vs0, hv0, hvl0, hv16, ha0, hst0⟩ := devD_ok (N := N) (by omega) (by omega) WS
 obtain ⟨σ0, hσ0⟩ : ∃ σ, σ = devD N WS := ⟨_, rfl⟩
 rw [← hσ0] at hv0 ha0 hst0
 simp only [envOf]
 refine tR ?_
 refine At.box rfl rfl rfl (fun b1 => ?_)
 refine tA rfl rfl ?_
 refine tE ?_
 refine tR ?_
 refine At.val (Val.loadAll (i := 0) Tryd.isAgg26 Tryd.sizeOf26 rfl rfl rfl) rfl rfl rfl ?_
 refine At.callP (fun w hw => (by have h0 := shape_p pg ino co lf vM vW vL w; rw [← hS] at h0; exact h0)) Tryd.call9 rfl rfl ?_
 refine At.alloc Tryd.zeroValue28 rfl rfl (fun b2 => ?_)
 refine At.storeAll (i := 0) Tryd.sizeOf28 rfl rfl rfl (by simp [Value.oneCell']) rfl rfl ?_
 simp only [sc0, scS]
 refine tE ?_
 refine tR ?_
 refine At.val (Val.loadAll (i := 1) Tryd.isAgg26 Tryd.sizeOf26 rfl rfl rfl) rfl rfl rfl ?_
 refine At.callYN (fun w hw => spans_n pg ino co lf vM vW vL MS w (hvM.mod hw.mod) hmM) Tryd.call10 rfl rfl (fun y hI => ?_)
 obtain ⟨vS, L⟩ := y
 dsimp only at hI ⊢
 have hso := hI
 obtain ⟨hsp, hle⟩ := hI
 refine At.rowIs (i := 0) rfl (fun A3 c4 hv => ?_)
 subst hv
 refine tA rfl rfl ?_
 refine tE ?_
 refine tR ?_
 refine At.val (Val.loadAll (i := 2) Tryd.isAgg26 Tryd.sizeOf26 rfl rfl rfl) rfl rfl rfl ?_
 refine At.callNB (fun w hw => (by have h0 := device_n pg ino co lf vM vW vL WS N w (hvW.mod hw.mod) hmW (by rw [← hS]; exact hN); rw [← hσ0] at h0; exact h0)) Tryd.call11 rfl rfl (fun p5 y6 => ?_)
 refine tM rfl rfl ?_
 refine At.val (Val.extract rfl rfl) rfl rfl rfl ?_
 refine At.val (Val.extract rfl rfl) rfl rfl rfl ?_
 refine tA rfl rfl ?_
 refine tA rfl rfl ?_
 refine tE ?_
 refine At.seq ?_
 refine tR ?_
 refine tM rfl rfl ?_
 refine At.val (Val.not rfl) rfl rfl rfl ?_
 refine tE ?_
 refine At.condF rfl ?_
 refine At.skipC ?_
 refine At.thenN ?_
 refine tR ?_
 refine tM rfl rfl ?_
 refine tM rfl rfl ?_
 obtain ⟨vs1, t1, ea1, eb1, hv1, ha1, hl1, hs1, hz1, hr1, hq1, hR1, hst1⟩ := save_x (L := L) hv0 ha0 hg (by omega) hso
 obtain ⟨σ1, hσ1⟩ : ∃ σ, σ = (saveE σ0 L).2.2 := ⟨_, rfl⟩
 rw [← hσ1] at hv1 ha1 hst1
 have hvl1 := hl1.trans hvl0
 refine At.callD 0 rfl (fun w hw hr => (by have h0 := save_d _ _ _ _ L w (ht.mod hw.mod) (Rep.off0 hw ht (fun h => h) (i := 0) rfl) (row_rd (hw.row (i := 1) rfl) (by decide)) (Rep.offRow (i := 1) (j := 0) hw rfl rfl (by decide)) (by first | omega | (simp only [List.length_take, List.length_drop]; omega) | (have h9 := growS_le L; omega)) (by omega) hr; rw [ea1, eb1, ← hσ1] at h0; exact h0)) Tryd.call12 rfl rfl (fun y7 => ?_)
 simp only [sc0, scS]
 refine tM rfl rfl ?_
 refine At.val (Val.extract rfl rfl) rfl rfl rfl ?_
 refine At.val (Val.extract rfl rfl) rfl rfl rfl ?_
 refine tA rfl rfl ?_
 refine tA rfl rfl ?_
 refine tE ?_
 refine At.seq ?_
 apply At.any (t := 11)
 · rfl
 refine KAt.pin (fun w hw => hw) ?_
 refine KAt.take 0 (Val.move rfl) rfl rfl rfl rfl (fun w hw => hw) (by decide +kernel) ?_
 refine KAt.take 2 (Val.loadAll (i := 2) Tryd.isAgg28 Tryd.sizeOf28 rfl rfl rfl) rfl rfl rfl rfl (fun w hw => hw) (by decide +kernel) ?_
 refine KAt.take 3 (Val.move rfl) rfl rfl rfl rfl (fun w hw => hw) (by decide +kernel) ?_
 refine KAt.take 4 (Val.build (fun a ha => by simp only [List.map_toArray, List.map_cons, List.map_nil, ha.eval (x := (.tmp 33)) rfl, ha.eval (x := (.tmp 34)) rfl] <;> rfl) (bld_45_0_2 _ _ _ _ _ _ _ )) rfl rfl rfl rfl (fun w hw => hw) (by decide +kernel) ?_
 refine KAt.only 1 rfl (by decide +kernel) ?_
 refine At.callRK 0 rfl (fun w hw hr => (by have h0 := view_k _ _ _ w hr; rw [hv1, mkC_view] at h0; exact h0)) Tryd.call13 rfl rfl (fun v8 => ?_)
 refine At.nil ?_
 refine KAt.go (fun w hw => hw.drop (List.Sublist.cons _ (List.Sublist.cons_cons _ (List.Sublist.cons_cons _ (List.Sublist.cons_cons _ (List.Sublist.cons_cons _ (List.Sublist.refl _))))))) ?_
 refine KAt.only 5 rfl (by decide +kernel) ?_
 refine At.callNT (g := (fun v => .tuple #[v, .int .i64 0])) (fun w hw => (by have h0 := restore_n _ _ (wbytes vs1) P I' C' (4 + I' / 8) L w (ht.mod hw.mod) (row_rd (hw.row (i := 0) rfl) (by decide)) (row_rd (hw.row (i := 2) rfl) (by decide)) (by rw [wbytes_length]; omega) (by first | omega | (simp only [List.length_take, List.length_drop]; omega) | (have h9 := growS_le L; omega)); rw [restL_yes ((hR1 L).trans (if_pos rfl)), (hR1 L).trans (if_pos rfl)] at h0; exact h0)) Tryd.call14 rfl rfl (fun v9 => ?_)
 refine At.nil ?_
 refine KAt.go (fun w hw => hw.drop (List.Sublist.cons _ (List.Sublist.cons _ (List.Sublist.cons_cons _ (List.Sublist.cons_cons _ (List.Sublist.cons_cons _ (List.Sublist.cons_cons _ (List.Sublist.refl _)))))))) ?_
 refine KAt.take 6 (Val.move rfl) rfl rfl rfl rfl (fun w hw => hw.drop (List.Sublist.cons _ (List.Sublist.cons _ (List.Sublist.cons_cons _ (List.Sublist.cons_cons _ (List.Sublist.cons_cons _ (List.Sublist.cons_cons _ (List.Sublist.refl _)))))))) (by decide +kernel) ?_
 refine KAt.take 7 (Val.extract rfl rfl) rfl rfl rfl rfl (fun w hw => hw.drop (List.Sublist.cons _ (List.Sublist.cons _ (List.Sublist.cons_cons _ (List.Sublist.cons_cons _ (List.Sublist.cons_cons _ (List.Sublist.cons_cons _ (List.Sublist.refl _)))))))) (by decide +kernel) ?_
 refine KAt.take 8 (Val.extract rfl rfl) rfl rfl rfl rfl (fun w hw => hw.drop (List.Sublist.cons _ (List.Sublist.cons _ (List.Sublist.cons_cons _ (List.Sublist.cons_cons _ (List.Sublist.cons_cons _ (List.Sublist.cons_cons _ (List.Sublist.refl _)))))))) (by decide +kernel) ?_
 refine KAt.take 9 (Val.assign rfl) rfl rfl rfl rfl (fun w hw => hw.drop (List.Sublist.cons _ (List.Sublist.cons _ (List.Sublist.cons_cons _ (List.Sublist.cons_cons _ (List.Sublist.cons_cons _ (List.Sublist.cons_cons _ (List.Sublist.refl _)))))))) (by decide +kernel) ?_
 refine KAt.take 10 (Val.assign rfl) rfl rfl rfl rfl (fun w hw => hw.drop (List.Sublist.cons _ (List.Sublist.cons _ (List.Sublist.cons_cons _ (List.Sublist.cons_cons _ (List.Sublist.cons_cons _ (List.Sublist.cons_cons _ (List.Sublist.refl _)))))))) (by decide +kernel) ?_
 refine KAt.done (by decide +kernel) ?_
 refine At.thenN ?_
 refine At.seq ?_
 apply At.any (t := 13)
 · rfl
 refine KAt.pin (fun w hw => hw) ?_
 refine KAt.take 0 (Val.move rfl) rfl rfl rfl rfl (fun w hw => hw) (by decide +kernel) ?_
 refine KAt.take 1 (Val.field 6 rfl fo_26_6 rfl) rfl rfl rfl rfl (fun w hw => hw) (by decide +kernel) ?_
 refine KAt.take 2 (Val.load (i := 5) Tryd.isAgg24 rfl rfl rfl) rfl rfl rfl rfl (fun w hw => hw) (by decide +kernel) ?_
 refine KAt.take 4 (Val.loadAll (i := 4) Tryd.isAgg28 Tryd.sizeOf28 rfl rfl rfl) rfl rfl rfl rfl (fun w hw => hw) (by decide +kernel) ?_
 refine KAt.take 5 (Val.move rfl) rfl rfl rfl rfl (fun w hw => hw) (by decide +kernel) ?_
 refine KAt.take 6 (Val.build (fun a ha => by simp only [List.map_toArray, List.map_cons, List.map_nil, ha.eval (x := (.tmp 44)) rfl, ha.eval (x := (.tmp 45)) rfl] <;> rfl) (bld_45_0_2 _ _ _ _ _ _ _ )) rfl rfl rfl rfl (fun w hw => hw) (by decide +kernel) ?_
 refine KAt.only 3 rfl (by decide +kernel) ?_
 refine At.callRK 2 rfl (fun w hw hr => (by have h0 := crash_k _ _ _ vL cs w (hvL.mod hw.mod) (hvL.off (hw.newFoot (List.mem_of_getElem? (i := 2) rfl))) hr; rw [hv1, mkC_pick] at h0; exact h0)) Tryd.call23 rfl rfl (fun v10 => ?_)
 refine At.nil ?_
 refine KAt.go (fun w hw => hw.drop (List.Sublist.cons _ (List.Sublist.cons_cons _ (List.Sublist.cons_cons _ (List.Sublist.cons_cons _ (List.Sublist.cons_cons _ (List.Sublist.cons_cons _ (List.Sublist.cons_cons _ (List.Sublist.refl _))))))))) ?_
 refine KAt.only 7 rfl (by decide +kernel) ?_
 refine At.callNT (g := (fun v => .tuple #[v, .int .i64 0])) (fun w hw => (by have h0 := restore_n _ _ (wbytes vs1) P I' C' (4 + I' / 8) L w (ht.mod hw.mod) (row_rd (hw.row (i := 0) rfl) (by decide)) (row_rd (hw.row (i := 4) rfl) (by decide)) (by rw [wbytes_length]; omega) (by first | omega | (simp only [List.length_take, List.length_drop]; omega) | (have h9 := growS_le L; omega)); rw [restL_yes ((hR1 L).trans (if_pos rfl)), (hR1 L).trans (if_pos rfl)] at h0; exact h0)) Tryd.call14 rfl rfl (fun v11 => ?_)
 refine At.nil ?_
 refine KAt.go (fun w hw => hw.drop (List.Sublist.cons _ (List.Sublist.cons _ (List.Sublist.cons_cons _ (List.Sublist.cons_cons _ (List.Sublist.cons_cons _ (List.Sublist.cons_cons _ (List.Sublist.cons_cons _ (List.Sublist.cons_cons _ (List.Sublist.refl _)))))))))) ?_
 refine KAt.take 8 (Val.move rfl) rfl rfl rfl rfl (fun w hw => hw.drop (List.Sublist.cons _ (List.Sublist.cons _ (List.Sublist.cons_cons _ (List.Sublist.cons_cons _ (List.Sublist.cons_cons _ (List.Sublist.cons_cons _ (List.Sublist.cons_cons _ (List.Sublist.cons_cons _ (List.Sublist.refl _)))))))))) (by decide +kernel) ?_
 refine KAt.take 9 (Val.extract rfl rfl) rfl rfl rfl rfl (fun w hw => hw.drop (List.Sublist.cons _ (List.Sublist.cons _ (List.Sublist.cons_cons _ (List.Sublist.cons_cons _ (List.Sublist.cons_cons _ (List.Sublist.cons_cons _ (List.Sublist.cons_cons _ (List.Sublist.cons_cons _ (List.Sublist.refl _)))))))))) (by decide +kernel) ?_
 refine KAt.take 10 (Val.extract rfl rfl) rfl rfl rfl rfl (fun w hw => hw.drop (List.Sublist.cons _ (List.Sublist.cons _ (List.Sublist.cons_cons _ (List.Sublist.cons_cons _ (List.Sublist.cons_cons _ (List.Sublist.cons_cons _ (List.Sublist.cons_cons _ (List.Sublist.cons_cons _ (List.Sublist.refl _)))))))))) (by decide +kernel) ?_
 refine KAt.take 11 (Val.assign rfl) rfl rfl rfl rfl (fun w hw => hw.drop (List.Sublist.cons _ (List.Sublist.cons _ (List.Sublist.cons_cons _ (List.Sublist.cons_cons _ (List.Sublist.cons_cons _ (List.Sublist.cons_cons _ (List.Sublist.cons_cons _ (List.Sublist.cons_cons _ (List.Sublist.refl _)))))))))) (by decide +kernel) ?_
 refine KAt.take 12 (Val.assign rfl) rfl rfl rfl rfl (fun w hw => hw.drop (List.Sublist.cons _ (List.Sublist.cons _ (List.Sublist.cons_cons _ (List.Sublist.cons_cons _ (List.Sublist.cons_cons _ (List.Sublist.cons_cons _ (List.Sublist.cons_cons _ (List.Sublist.cons_cons _ (List.Sublist.refl _)))))))))) (by decide +kernel) ?_
 refine KAt.done (by decide +kernel) ?_
 refine At.thenN ?_
 refine At.seq ?_
 refine tR ?_
 refine tM rfl rfl ?_
 refine At.val (Val.not rfl) rfl rfl rfl ?_
 refine tM rfl rfl ?_
 refine At.yes rfl rfl ?_
 refine tM rfl rfl ?_
 refine At.yes rfl rfl ?_
 refine At.val (Val.bin rfl rfl rfl) rfl rfl rfl ?_
 refine At.val (Val.pickF rfl rfl) rfl rfl rfl ?_
 refine tM rfl rfl ?_
 refine At.yes rfl rfl ?_
 refine tM rfl rfl ?_
 refine At.yes rfl rfl ?_
 refine At.val (Val.bin rfl rfl rfl) rfl rfl rfl ?_
 refine At.val (Val.pickF rfl rfl) rfl rfl rfl ?_
 refine tM rfl rfl ?_
 refine At.yes rfl rfl ?_
 refine tM rfl rfl ?_
 refine At.yes rfl rfl ?_
 refine At.val (Val.bin rfl rfl rfl) rfl rfl rfl ?_
 refine At.val (Val.pickF rfl rfl) rfl rfl rfl ?_
 refine tM rfl rfl ?_
 refine At.yes rfl rfl ?_
 refine tM rfl rfl ?_
 refine At.yes rfl rfl ?_
 refine tM rfl rfl ?_
 refine At.yes rfl rfl ?_
 refine At.callP (fun w hw => (by have h0 := sameSpL_p _ _ L L w (row_rd (hw.row (i := 2) rfl) (by decide)) (row_rd (hw.row (i := 5) rfl) (by decide)) (by first | omega | (simp only [List.length_take, List.length_drop]; omega) | (have h9 := growS_le L; omega)) (by first | omega | (simp only [List.length_take, List.length_drop]; omega) | (have h9 := growS_le L; omega)); rwa [decide_eq_true rfl] at h0)) Tryd.call16 rfl rfl ?_
 refine At.yes rfl rfl ?_
 refine At.val (Val.not rfl) rfl rfl rfl ?_
 refine At.val (Val.pickF rfl rfl) rfl rfl rfl ?_
 refine tM rfl rfl ?_
 refine At.yes rfl rfl ?_
 refine tM rfl rfl ?_
 refine At.yes rfl rfl ?_
 refine tM rfl rfl ?_
 refine At.yes rfl rfl ?_
 refine At.callP (fun w hw => (by have h0 := sameSpL_p _ _ L L w (row_rd (hw.row (i := 0) rfl) (by decide)) (row_rd (hw.row (i := 5) rfl) (by decide)) (by first | omega | (simp only [List.length_take, List.length_drop]; omega) | (have h9 := growS_le L; omega)) (by first | omega | (simp only [List.length_take, List.length_drop]; omega) | (have h9 := growS_le L; omega)); rwa [decide_eq_true rfl] at h0)) Tryd.call16 rfl rfl ?_
 refine At.yes rfl rfl ?_
 refine At.val (Val.not rfl) rfl rfl rfl ?_
 refine At.val (Val.pickF rfl rfl) rfl rfl rfl ?_
 refine tM rfl rfl ?_
 refine At.yes rfl rfl ?_
 refine tM rfl rfl ?_
 refine At.yes rfl rfl ?_
 refine At.callDB 4 rfl (fun w hw hr => doubts_k _ _ _ w hr) Tryd.call25 rfl rfl (fun v12 Q13 hQ14 => ?_)
 obtain rfl := fst_nil hQ14 (by rw [hv1]; exact mkC_dts _)
 refine At.yes rfl rfl ?_
 refine At.val (Val.lenDb (i := 0) rfl Tryd.underlying61 rfl) rfl rfl rfl ?_
 refine At.yes rfl rfl ?_
 refine At.val (Val.bin rfl rfl rfl) rfl rfl rfl ?_
 refine At.val (Val.pickF rfl rfl) rfl rfl rfl ?_
 refine tE ?_
 refine At.condF rfl ?_
 refine At.skipC ?_
 refine At.thenN ?_
 refine At.seq ?_
 apply At.any (t := 11)
 · rfl
 refine KAt.pin (fun w hw => hw) ?_
 refine KAt.take 0 (Val.move rfl) rfl rfl rfl rfl (fun w hw => hw) (by decide +kernel) ?_
 refine KAt.take 2 (Val.loadAll (i := 7) Tryd.isAgg28 Tryd.sizeOf28 rfl rfl rfl) rfl rfl rfl rfl (fun w hw => hw) (by decide +kernel) ?_
 refine KAt.take 3 (Val.move rfl) rfl rfl rfl rfl (fun w hw => hw) (by decide +kernel) ?_
 refine KAt.only 1 rfl (by decide +kernel) ?_
 refine At.callRK 5 rfl (fun w hw hr => (by have h0 := view_k _ _ _ w hr; rw [hv1, mkC_view] at h0; exact h0)) Tryd.call13 rfl rfl (fun v15 => ?_)
 refine At.nil ?_
 refine KAt.go (fun w hw => hw.drop (List.Sublist.cons _ (List.Sublist.cons_cons _ (List.Sublist.cons_cons _ (List.Sublist.cons_cons _ (List.Sublist.cons_cons _ (List.Sublist.cons_cons _ (List.Sublist.cons_cons _ (List.Sublist.cons_cons _ (List.Sublist.cons_cons _ (List.Sublist.cons_cons _ (List.Sublist.refl _)))))))))))) ?_
 refine KAt.only 4 rfl (by decide +kernel) ?_
 refine At.callN (fun w hw => other_n _ L w (row_rd (hw.row (i := 7) rfl) (by decide)) hso) Tryd.call15 rfl rfl (fun v16 => ?_)
 refine At.rowIs (i := 0) rfl (fun A17 c18 hv => ?_)
 subst hv
 refine At.nil ?_
 refine KAt.go (fun w hw => hw.drop (List.Sublist.cons _ (List.Sublist.cons _ (List.Sublist.cons_cons _ (List.Sublist.cons_cons _ (List.Sublist.cons_cons _ (List.Sublist.cons_cons _ (List.Sublist.cons_cons _ (List.Sublist.cons_cons _ (List.Sublist.cons_cons _ (List.Sublist.cons_cons _ (List.Sublist.cons_cons _ (List.Sublist.refl _))))))))))))) ?_
 refine KAt.take 5 (Val.build (fun a ha => by simp only [List.map_toArray, List.map_cons, List.map_nil, ha.eval (x := (.tmp 85)) rfl, ha.eval (x := (.tmp 87)) rfl] <;> rfl) (bld_45_0_2 _ _ _ _ _ _ _ )) rfl rfl rfl rfl (fun w hw => hw.drop (List.Sublist.cons _ (List.Sublist.cons _ (List.Sublist.cons_cons _ (List.Sublist.cons_cons _ (List.Sublist.cons_cons _ (List.Sublist.cons_cons _ (List.Sublist.cons_cons _ (List.Sublist.cons_cons _ (List.Sublist.cons_cons _ (List.Sublist.cons_cons _ (List.Sublist.cons_cons _ (List.Sublist.refl _))))))))))))) (by decide +kernel) ?_
 refine KAt.only 6 rfl (by decide +kernel) ?_
 refine At.callNT (g := (fun v => .tuple #[v, .int .i64 132])) (fun w hw => (by have h0 := restore_n _ _ (wbytes vs1) P I' C' (4 + I' / 8) (growS L) w (ht.mod hw.mod) (row_rd (hw.row (i := 1) rfl) (by decide)) (row_rd (hw.row (i := 0) rfl) (by decide)) (by rw [wbytes_length]; omega) (by first | omega | (simp only [List.length_take, List.length_drop]; omega) | (have h9 := growS_le L; omega)); rw [restL_no ((hR1 (growS L)).trans (if_neg (growS_ne L).symm)) (by decide), (hR1 (growS L)).trans (if_neg (growS_ne L).symm)] at h0; exact h0)) Tryd.call14 rfl rfl (fun v19 => ?_)
 refine At.nil ?_
 refine KAt.go (fun w hw => hw.drop (List.Sublist.cons _ (List.Sublist.cons _ (List.Sublist.cons _ (List.Sublist.cons_cons _ (List.Sublist.cons_cons _ (List.Sublist.cons_cons _ (List.Sublist.cons_cons _ (List.Sublist.cons_cons _ (List.Sublist.cons_cons _ (List.Sublist.cons_cons _ (List.Sublist.cons_cons _ (List.Sublist.cons_cons _ (List.Sublist.refl _)))))))))))))) ?_
 refine KAt.take 7 (Val.move rfl) rfl rfl rfl rfl (fun w hw => hw.drop (List.Sublist.cons _ (List.Sublist.cons _ (List.Sublist.cons _ (List.Sublist.cons_cons _ (List.Sublist.cons_cons _ (List.Sublist.cons_cons _ (List.Sublist.cons_cons _ (List.Sublist.cons_cons _ (List.Sublist.cons_cons _ (List.Sublist.cons_cons _ (List.Sublist.cons_cons _ (List.Sublist.cons_cons _ (List.Sublist.refl _)))))))))))))) (by decide +kernel) ?_
 refine KAt.take 8 (Val.extract rfl rfl) rfl rfl rfl rfl (fun w hw => hw.drop (List.Sublist.cons _ (List.Sublist.cons _ (List.Sublist.cons _ (List.Sublist.cons_cons _ (List.Sublist.cons_cons _ (List.Sublist.cons_cons _ (List.Sublist.cons_cons _ (List.Sublist.cons_cons _ (List.Sublist.cons_cons _ (List.Sublist.cons_cons _ (List.Sublist.cons_cons _ (List.Sublist.cons_cons _ (List.Sublist.refl _)))))))))))))) (by decide +kernel) ?_
 refine KAt.take 9 (Val.extract rfl rfl) rfl rfl rfl rfl (fun w hw => hw.drop (List.Sublist.cons _ (List.Sublist.cons _ (List.Sublist.cons _ (List.Sublist.cons_cons _ (List.Sublist.cons_cons _ (List.Sublist.cons_cons _ (List.Sublist.cons_cons _ (List.Sublist.cons_cons _ (List.Sublist.cons_cons _ (List.Sublist.cons_cons _ (List.Sublist.cons_cons _ (List.Sublist.cons_cons _ (List.Sublist.refl _)))))))))))))) (by decide +kernel) ?_
 refine KAt.take 10 (Val.assign rfl) rfl rfl rfl rfl (fun w hw => hw.drop (List.Sublist.cons _ (List.Sublist.cons _ (List.Sublist.cons _ (List.Sublist.cons_cons _ (List.Sublist.cons_cons _ (List.Sublist.cons_cons _ (List.Sublist.cons_cons _ (List.Sublist.cons_cons _ (List.Sublist.cons_cons _ (List.Sublist.cons_cons _ (List.Sublist.cons_cons _ (List.Sublist.cons_cons _ (List.Sublist.refl _)))))))))))))) (by decide +kernel) ?_
 refine KAt.done (by decide +kernel) ?_
 refine At.thenN ?_
 refine At.seq ?_
 refine tR ?_
 refine tM rfl rfl ?_
 refine At.val (Val.bin rfl rfl rfl) rfl rfl rfl ?_
 refine tE ?_
 refine At.condF rfl ?_
 refine At.skipC ?_
 refine At.thenN ?_
 refine At.seq ?_
 refine tR ?_
 refine tM rfl rfl ?_
 refine At.val (Val.lenRow (i := 9) Tryd.underlying30 rfl rfl) rfl rfl rfl ?_
 refine At.val (Val.bin rfl rfl rfl) rfl rfl rfl ?_
 refine tE ?_
 refine At.cond rfl (fun h20 => ?_) (fun h20 => ?_)
 ·skip
  try simp only [hasB, isSizeB, Bool.not_eq_true', Bool.not_eq_false', bne_iff_ne, ne_eq, bne_eq_false_iff_eq, beq_iff_eq, beq_eq_false_iff_ne, decide_eq_true_eq, decide_eq_false_iff_not, gt_iff_lt, ge_iff_le] at h20
  have hL0 : 0 < L.length := by omega
  refine At.seq ?_
  apply At.any (t := 11)
  · rfl
  refine KAt.pin (fun w hw => hw) ?_
  refine KAt.take 0 (Val.move rfl) rfl rfl rfl rfl (fun w hw => hw) (by decide +kernel) ?_
  refine KAt.take 2 (Val.loadAll (i := 10) Tryd.isAgg28 Tryd.sizeOf28 rfl rfl rfl) rfl rfl rfl rfl (fun w hw => hw) (by decide +kernel) ?_
  refine KAt.take 3 (Val.move rfl) rfl rfl rfl rfl (fun w hw => hw) (by decide +kernel) ?_
  refine KAt.take 4 (Val.cutRow (i := 9) (l := 1) (h := L.length) rfl (by decide) Tryd.underlying30 Tryd.sizeOf51 rfl (by exact ⟨_, _, rfl, by omega, by omega⟩) (by exact rfl) (by omega) (by omega)) rfl rfl rfl rfl (fun w hw => hw) (by decide +kernel) ?_
  refine KAt.take 5 (Val.build (fun a ha => by simp only [List.map_toArray, List.map_cons, List.map_nil, ha.eval (x := (.tmp 100)) rfl, ha.eval (x := (.tmp 102)) rfl] <;> rfl) (bld_45_0_2 _ _ _ _ _ _ _ )) rfl rfl rfl rfl (fun w hw => hw) (by decide +kernel) ?_
  refine KAt.only 1 rfl (by decide +kernel) ?_
  refine At.callRK 8 rfl (fun w hw hr => (by have h0 := view_k _ _ _ w hr; rw [hv1, mkC_view] at h0; exact h0)) Tryd.call13 rfl rfl (fun v21 => ?_)
  refine At.nil ?_
  refine KAt.go (fun w hw => hw.drop (List.Sublist.cons _ (List.Sublist.cons_cons _ (List.Sublist.cons_cons _ (List.Sublist.cons_cons _ (List.Sublist.cons_cons _ (List.Sublist.cons_cons _ (List.Sublist.cons_cons _ (List.Sublist.cons_cons _ (List.Sublist.cons_cons _ (List.Sublist.cons_cons _ (List.Sublist.cons_cons _ (List.Sublist.cons_cons _ (List.Sublist.cons_cons _ (List.Sublist.refl _))))))))))))))) ?_
  refine KAt.only 6 rfl (by decide +kernel) ?_
  refine At.callNT (g := (fun v => .tuple #[v, .int .i64 132])) (fun w hw => (by have h0 := restore_n _ _ (wbytes vs1) P I' C' (4 + I' / 8) ((L.drop 1).take (L.length - 1)) w (ht.mod hw.mod) (row_rd (hw.row (i := 0) rfl) (by decide)) (RdS.cut (L := L) (row_rd (hw.row (i := 10) rfl) (by decide)) (by omega) (by omega)) (by rw [wbytes_length]; omega) (by first | omega | (simp only [List.length_take, List.length_drop]; omega) | (have h9 := growS_le L; omega)); rw [restL_no ((hR1 ((L.drop 1).take (L.length - 1))).trans (if_neg (cut_ne hL0))) (by decide), (hR1 ((L.drop 1).take (L.length - 1))).trans (if_neg (cut_ne hL0))] at h0; exact h0)) Tryd.call14 rfl rfl (fun v22 => ?_)
  refine At.nil ?_
  refine KAt.go (fun w hw => hw.drop (List.Sublist.cons _ (List.Sublist.cons _ (List.Sublist.cons_cons _ (List.Sublist.cons_cons _ (List.Sublist.cons_cons _ (List.Sublist.cons_cons _ (List.Sublist.cons_cons _ (List.Sublist.cons_cons _ (List.Sublist.cons_cons _ (List.Sublist.cons_cons _ (List.Sublist.cons_cons _ (List.Sublist.cons_cons _ (List.Sublist.cons_cons _ (List.Sublist.cons_cons _ (List.Sublist.refl _)))))))))))))))) ?_
  refine KAt.take 7 (Val.move rfl) rfl rfl rfl rfl (fun w hw => hw.drop (List.Sublist.cons _ (List.Sublist.cons _ (List.Sublist.cons_cons _ (List.Sublist.cons_cons _ (List.Sublist.cons_cons _ (List.Sublist.cons_cons _ (List.Sublist.cons_cons _ (List.Sublist.cons_cons _ (List.Sublist.cons_cons _ (List.Sublist.cons_cons _ (List.Sublist.cons_cons _ (List.Sublist.cons_cons _ (List.Sublist.cons_cons _ (List.Sublist.cons_cons _ (List.Sublist.refl _)))))))))))))))) (by decide +kernel) ?_
  refine KAt.take 8 (Val.extract rfl rfl) rfl rfl rfl rfl (fun w hw => hw.drop (List.Sublist.cons _ (List.Sublist.cons _ (List.Sublist.cons_cons _ (List.Sublist.cons_cons _ (List.Sublist.cons_cons _ (List.Sublist.cons_cons _ (List.Sublist.cons_cons _ (List.Sublist.cons_cons _ (List.Sublist.cons_cons _ (List.Sublist.cons_cons _ (List.Sublist.cons_cons _ (List.Sublist.cons_cons _ (List.Sublist.cons_cons _ (List.Sublist.cons_cons _ (List.Sublist.refl _)))))))))))))))) (by decide +kernel) ?_
  refine KAt.take 9 (Val.extract rfl rfl) rfl rfl rfl rfl (fun w hw => hw.drop (List.Sublist.cons _ (List.Sublist.cons _ (List.Sublist.cons_cons _ (List.Sublist.cons_cons _ (List.Sublist.cons_cons _ (List.Sublist.cons_cons _ (List.Sublist.cons_cons _ (List.Sublist.cons_cons _ (List.Sublist.cons_cons _ (List.Sublist.cons_cons _ (List.Sublist.cons_cons _ (List.Sublist.cons_cons _ (List.Sublist.cons_cons _ (List.Sublist.cons_cons _ (List.Sublist.refl _)))))))))))))))) (by decide +kernel) ?_
  refine KAt.take 10 (Val.assign rfl) rfl rfl rfl rfl (fun w hw => hw.drop (List.Sublist.cons _ (List.Sublist.cons _ (List.Sublist.cons_cons _ (List.Sublist.cons_cons _ (List.Sublist.cons_cons _ (List.Sublist.cons_cons _ (List.Sublist.cons_cons _ (List.Sublist.cons_cons _ (List.Sublist.cons_cons _ (List.Sublist.cons_cons _ (List.Sublist.cons_cons _ (List.Sublist.cons_cons _ (List.Sublist.cons_cons _ (List.Sublist.cons_cons _ (List.Sublist.refl _)))))))))))))))) (by decide +kernel) ?_
  refine KAt.done (by decide +kernel) ?_
  refine At.thenN ?_
  refine tR ?_
  refine tM rfl rfl ?_
  refine tM rfl rfl ?_
  refine At.val (Val.cutRow (i := 11) (l := 0) (h := 1) rfl (by decide) Tryd.underlying30 Tryd.sizeOf51 rfl (by exact rfl) (by exact ⟨_, _, rfl, by omega, by omega⟩) (by omega) (by omega)) rfl rfl rfl ?_
  obtain ⟨vs2, t2, ea2, eb2, hv2, ha2, hl2, hs2, hz2, hr2, hq2, hR2, hst2⟩ := save_x (L := ((L.drop 0).take (1 - 0))) hv1 ha1 hg (by omega) (spOk_cut hso 1)
  obtain ⟨σ2, hσ2⟩ : ∃ σ, σ = (saveE σ1 ((L.drop 0).take (1 - 0))).2.2 := ⟨_, rfl⟩
  rw [← hσ2] at hv2 ha2 hst2
  have hvl2 := hl2.trans hvl1
  refine At.callD 10 rfl (fun w hw hr => (by have h0 := save_d _ _ _ _ ((L.drop 0).take (1 - 0)) w (ht.mod hw.mod) (Rep.off0 hw ht (fun h => h) (i := 10) rfl) (RdS.cut (L := L) (row_rd (hw.row (i := 11) rfl) (by decide)) (by omega) (by omega)) (Off.cutS (Rep.offRow (i := 11) (j := 10) hw rfl rfl (by decide))) (by first | omega | (simp only [List.length_take, List.length_drop]; omega) | (have h9 := growS_le L; omega)) (by omega) hr; rw [ea2, eb2, ← hσ2] at h0; exact h0)) Tryd.call12 rfl rfl (fun y23 => ?_)
  simp only [sc0, scS]
  refine tM rfl rfl ?_
  refine At.val (Val.extract rfl rfl) rfl rfl rfl ?_
  refine At.val (Val.extract rfl rfl) rfl rfl rfl ?_
  refine tA rfl rfl ?_
  refine tA rfl rfl ?_
  refine tE ?_
  refine At.seq ?_
  apply At.any (t := 12)
  · rfl
  refine KAt.pin (fun w hw => hw) ?_
  refine KAt.take 0 (Val.move rfl) rfl rfl rfl rfl (fun w hw => hw) (by decide +kernel) ?_
  refine KAt.take 2 (Val.loadAll (i := 12) Tryd.isAgg28 Tryd.sizeOf28 rfl rfl rfl) rfl rfl rfl rfl (fun w hw => hw) (by decide +kernel) ?_
  refine KAt.take 3 (Val.move rfl) rfl rfl rfl rfl (fun w hw => hw) (by decide +kernel) ?_
  refine KAt.take 4 (Val.cutRow (i := 11) (l := 0) (h := 1) rfl (by decide) Tryd.underlying30 Tryd.sizeOf51 rfl (by exact rfl) (by exact ⟨_, _, rfl, by omega, by omega⟩) (by omega) (by omega)) rfl rfl rfl rfl (fun w hw => hw) (by decide +kernel) ?_
  refine KAt.take 5 (Val.build (fun a ha => by simp only [List.map_toArray, List.map_cons, List.map_nil, ha.eval (x := (.tmp 117)) rfl, ha.eval (x := (.tmp 119)) rfl] <;> rfl) (bld_45_0_2 _ _ _ _ _ _ _ )) rfl rfl rfl rfl (fun w hw => hw) (by decide +kernel) ?_
  refine KAt.only 1 rfl (by decide +kernel) ?_
  refine At.callRK 10 rfl (fun w hw hr => (by have h0 := view_k _ _ _ w hr; rw [hv2, mkC_view] at h0; exact h0)) Tryd.call13 rfl rfl (fun v24 => ?_)
  refine At.nil ?_
  refine KAt.go (fun w hw => hw.drop (List.Sublist.cons _ (List.Sublist.cons_cons _ (List.Sublist.cons_cons _ (List.Sublist.cons_cons _ (List.Sublist.cons_cons _ (List.Sublist.cons_cons _ (List.Sublist.cons_cons _ (List.Sublist.cons_cons _ (List.Sublist.cons_cons _ (List.Sublist.cons_cons _ (List.Sublist.cons_cons _ (List.Sublist.cons_cons _ (List.Sublist.cons_cons _ (List.Sublist.cons_cons _ (List.Sublist.cons_cons _ (List.Sublist.refl _))))))))))))))))) ?_
  refine KAt.only 6 rfl (by decide +kernel) ?_
  refine At.callNT (g := (fun v => .tuple #[v, .int .i64 0])) (fun w hw => (by have h0 := restore_n _ _ (wbytes vs2) P I' C' (4 + I' / 8) ((L.drop 0).take (1 - 0)) w (ht.mod hw.mod) (row_rd (hw.row (i := 0) rfl) (by decide)) (RdS.cut (L := L) (row_rd (hw.row (i := 12) rfl) (by decide)) (by omega) (by omega)) (by rw [wbytes_length]; omega) (by first | omega | (simp only [List.length_take, List.length_drop]; omega) | (have h9 := growS_le L; omega)); rw [restL_yes ((hR2 ((L.drop 0).take (1 - 0))).trans (if_pos rfl)), (hR2 ((L.drop 0).take (1 - 0))).trans (if_pos rfl)] at h0; exact h0)) Tryd.call14 rfl rfl (fun v25 => ?_)
  refine At.nil ?_
  refine KAt.go (fun w hw => hw.drop (List.Sublist.cons _ (List.Sublist.cons _ (List.Sublist.cons_cons _ (List.Sublist.cons_cons _ (List.Sublist.cons_cons _ (List.Sublist.cons_cons _ (List.Sublist.cons_cons _ (List.Sublist.cons_cons _ (List.Sublist.cons_cons _ (List.Sublist.cons_cons _ (List.Sublist.cons_cons _ (List.Sublist.cons_cons _ (List.Sublist.cons_cons _ (List.Sublist.cons_cons _ (List.Sublist.cons_cons _ (List.Sublist.cons_cons _ (List.Sublist.refl _)))))))))))))))))) ?_
  refine KAt.take 7 (Val.move rfl) rfl rfl rfl rfl (fun w hw => hw.drop (List.Sublist.cons _ (List.Sublist.cons _ (List.Sublist.cons_cons _ (List.Sublist.cons_cons _ (List.Sublist.cons_cons _ (List.Sublist.cons_cons _ (List.Sublist.cons_cons _ (List.Sublist.cons_cons _ (List.Sublist.cons_cons _ (List.Sublist.cons_cons _ (List.Sublist.cons_cons _ (List.Sublist.cons_cons _ (List.Sublist.cons_cons _ (List.Sublist.cons_cons _ (List.Sublist.cons_cons _ (List.Sublist.cons_cons _ (List.Sublist.refl _)))))))))))))))))) (by decide +kernel) ?_
  refine KAt.take 8 (Val.extract rfl rfl) rfl rfl rfl rfl (fun w hw => hw.drop (List.Sublist.cons _ (List.Sublist.cons _ (List.Sublist.cons_cons _ (List.Sublist.cons_cons _ (List.Sublist.cons_cons _ (List.Sublist.cons_cons _ (List.Sublist.cons_cons _ (List.Sublist.cons_cons _ (List.Sublist.cons_cons _ (List.Sublist.cons_cons _ (List.Sublist.cons_cons _ (List.Sublist.cons_cons _ (List.Sublist.cons_cons _ (List.Sublist.cons_cons _ (List.Sublist.cons_cons _ (List.Sublist.cons_cons _ (List.Sublist.refl _)))))))))))))))))) (by decide +kernel) ?_
  refine KAt.take 9 (Val.extract rfl rfl) rfl rfl rfl rfl (fun w hw => hw.drop (List.Sublist.cons _ (List.Sublist.cons _ (List.Sublist.cons_cons _ (List.Sublist.cons_cons _ (List.Sublist.cons_cons _ (List.Sublist.cons_cons _ (List.Sublist.cons_cons _ (List.Sublist.cons_cons _ (List.Sublist.cons_cons _ (List.Sublist.cons_cons _ (List.Sublist.cons_cons _ (List.Sublist.cons_cons _ (List.Sublist.cons_cons _ (List.Sublist.cons_cons _ (List.Sublist.cons_cons _ (List.Sublist.cons_cons _ (List.Sublist.refl _)))))))))))))))))) (by decide +kernel) ?_
  refine KAt.take 10 (Val.assign rfl) rfl rfl rfl rfl (fun w hw => hw.drop (List.Sublist.cons _ (List.Sublist.cons _ (List.Sublist.cons_cons _ (List.Sublist.cons_cons _ (List.Sublist.cons_cons _ (List.Sublist.cons_cons _ (List.Sublist.cons_cons _ (List.Sublist.cons_cons _ (List.Sublist.cons_cons _ (List.Sublist.cons_cons _ (List.Sublist.cons_cons _ (List.Sublist.cons_cons _ (List.Sublist.cons_cons _ (List.Sublist.cons_cons _ (List.Sublist.cons_cons _ (List.Sublist.cons_cons _ (List.Sublist.refl _)))))))))))))))))) (by decide +kernel) ?_
  refine KAt.take 11 (Val.assign rfl) rfl rfl rfl rfl (fun w hw => hw.drop (List.Sublist.cons _ (List.Sublist.cons _ (List.Sublist.cons_cons _ (List.Sublist.cons_cons _ (List.Sublist.cons_cons _ (List.Sublist.cons_cons _ (List.Sublist.cons_cons _ (List.Sublist.cons_cons _ (List.Sublist.cons_cons _ (List.Sublist.cons_cons _ (List.Sublist.cons_cons _ (List.Sublist.cons_cons _ (List.Sublist.cons_cons _ (List.Sublist.cons_cons _ (List.Sublist.cons_cons _ (List.Sublist.cons_cons _ (List.Sublist.refl _)))))))))))))))))) (by decide +kernel) ?_
  refine KAt.done (by decide +kernel) ?_
  refine At.thenN ?_
  refine tR ?_
  refine tM rfl rfl ?_
  refine At.val (Val.bin rfl rfl rfl) rfl rfl rfl ?_
  refine tM rfl rfl ?_
  refine At.yes rfl rfl ?_
  refine tM rfl rfl ?_
  refine At.yes rfl rfl ?_
  refine At.val (Val.not rfl) rfl rfl rfl ?_
  refine At.val (Val.pickF rfl rfl) rfl rfl rfl ?_
  refine tM rfl rfl ?_
  refine At.yes rfl rfl ?_
  refine tM rfl rfl ?_
  refine At.yes rfl rfl ?_
  refine At.val (Val.bin rfl rfl rfl) rfl rfl rfl ?_
  refine At.val (Val.pickF rfl rfl) rfl rfl rfl ?_
  refine tM rfl rfl ?_
  refine At.yes rfl rfl ?_
  refine tM rfl rfl ?_
  refine At.yes rfl rfl ?_
  refine At.val (Val.bin rfl rfl rfl) rfl rfl rfl ?_
  refine At.val (Val.pickF rfl rfl) rfl rfl rfl ?_
  refine tM rfl rfl ?_
  refine At.yes rfl rfl ?_
  refine tM rfl rfl ?_
  refine At.yes rfl rfl ?_
  refine tM rfl rfl ?_
  refine At.yes rfl rfl ?_
  refine At.val (Val.cutRow (i := 13) (l := 0) (h := 1) rfl (by decide) Tryd.underlying30 Tryd.sizeOf51 rfl (by exact rfl) (by exact ⟨_, _, rfl, by omega, by omega⟩) (by omega) (by omega)) rfl rfl rfl ?_
  refine At.yes rfl rfl ?_
  refine At.callP (fun w hw => (by have h0 := sameSpL_p _ _ ((L.drop 0).take (1 - 0)) ((L.drop 0).take (1 - 0)) w (row_rd (hw.row (i := 0) rfl) (by decide)) (RdS.cut (L := L) (row_rd (hw.row (i := 13) rfl) (by decide)) (by omega) (by omega)) (by first | omega | (simp only [List.length_take, List.length_drop]; omega) | (have h9 := growS_le L; omega)) (by first | omega | (simp only [List.length_take, List.length_drop]; omega) | (have h9 := growS_le L; omega)); rwa [decide_eq_true rfl] at h0)) Tryd.call16 rfl rfl ?_
  refine At.yes rfl rfl ?_
  refine At.val (Val.not rfl) rfl rfl rfl ?_
  refine At.val (Val.pickF rfl rfl) rfl rfl rfl ?_
  refine tE ?_
  refine At.condF rfl ?_
  refine At.skipC ?_
  refine At.thenN ?_
  refine tR ?_
  refine tM rfl rfl ?_
  obtain ⟨vs9, eb9, hv9, ha9, hl9, hR9⟩ := forget_x hv2 ha2 hg (by omega)
  obtain ⟨σ9, hσ9⟩ : ∃ σ, σ = (actsE σ2 (cleanA 0)).2 := ⟨_, rfl⟩
  rw [← hσ9] at hv9 ha9
  have hvl9 := hl9.trans hvl2
  have hlen2 : σ2.ws.length = N := by rw [hv2, mkC_length]; omega
  refine At.callD 12 rfl (fun w hw hr => (by have h0 := forget_d _ _ σ2 w (ht.mod hw.mod) (Rep.off0 hw ht (fun h => h) (i := 12) rfl) (by omega) (by omega) hr; rw [eb9, ← hσ9] at h0; exact h0)) Tryd.call26 rfl rfl (fun y26 => ?_)
  simp only [sc0, scS]
  refine tA rfl rfl ?_
  refine tE ?_
  refine At.seq ?_
  apply At.any (t := 12)
  · rfl
  refine KAt.pin (fun w hw => hw) ?_
  refine KAt.take 0 (Val.move rfl) rfl rfl rfl rfl (fun w hw => hw) (by decide +kernel) ?_
  refine KAt.take 1 (Val.field 6 rfl fo_26_6 rfl) rfl rfl rfl rfl (fun w hw => hw) (by decide +kernel) ?_
  refine KAt.take 2 (Val.load (i := 15) Tryd.isAgg24 rfl rfl rfl) rfl rfl rfl rfl (fun w hw => hw) (by decide +kernel) ?_
  refine KAt.take 4 (Val.loadAll (i := 14) Tryd.isAgg28 Tryd.sizeOf28 rfl rfl rfl) rfl rfl rfl rfl (fun w hw => hw) (by decide +kernel) ?_
  refine KAt.take 5 (Val.move rfl) rfl rfl rfl rfl (fun w hw => hw) (by decide +kernel) ?_
  refine KAt.take 6 (Val.build (fun a ha => by simp only [List.map_toArray, List.map_cons, List.map_nil, ha.eval (x := (.tmp 152)) rfl, ha.eval (x := (.tmp 153)) rfl] <;> rfl) (bld_45_0_2 _ _ _ _ _ _ _ )) rfl rfl rfl rfl (fun w hw => hw) (by decide +kernel) ?_
  refine KAt.only 3 rfl (by decide +kernel) ?_
  refine At.callRK 12 rfl (fun w hw hr => (by have h0 := crash_k _ _ _ vL cs w (hvL.mod hw.mod) (hvL.off (hw.newFoot (List.mem_of_getElem? (i := 12) rfl))) hr; rw [hv9, mkC_pick] at h0; exact h0)) Tryd.call23 rfl rfl (fun v27 => ?_)
  refine At.nil ?_
  refine KAt.go (fun w hw => hw.drop (List.Sublist.cons _ (List.Sublist.cons_cons _ (List.Sublist.cons_cons _ (List.Sublist.cons_cons _ (List.Sublist.cons_cons _ (List.Sublist.cons_cons _ (List.Sublist.cons_cons _ (List.Sublist.cons_cons _ (List.Sublist.cons_cons _ (List.Sublist.cons_cons _ (List.Sublist.cons_cons _ (List.Sublist.cons_cons _ (List.Sublist.cons_cons _ (List.Sublist.cons_cons _ (List.Sublist.cons_cons _ (List.Sublist.cons_cons _ (List.Sublist.cons_cons _ (List.Sublist.refl _))))))))))))))))))) ?_
  refine KAt.only 7 rfl (by decide +kernel) ?_
  refine At.callNT (g := (fun v => .tuple #[v, .int .i64 130])) (fun w hw => (by have h0 := restore_n _ _ (wbytes vs9) P I' C' (4 + I' / 8) L w (ht.mod hw.mod) (row_rd (hw.row (i := 0) rfl) (by decide)) (row_rd (hw.row (i := 14) rfl) (by decide)) (by rw [wbytes_length]; omega) (by first | omega | (simp only [List.length_take, List.length_drop]; omega) | (have h9 := growS_le L; omega)); rw [restL_no (hR9 L) (by decide), hR9 L] at h0; exact h0)) Tryd.call14 rfl rfl (fun v28 => ?_)
  refine At.nil ?_
  refine KAt.go (fun w hw => hw.drop (List.Sublist.cons _ (List.Sublist.cons _ (List.Sublist.cons_cons _ (List.Sublist.cons_cons _ (List.Sublist.cons_cons _ (List.Sublist.cons_cons _ (List.Sublist.cons_cons _ (List.Sublist.cons_cons _ (List.Sublist.cons_cons _ (List.Sublist.cons_cons _ (List.Sublist.cons_cons _ (List.Sublist.cons_cons _ (List.Sublist.cons_cons _ (List.Sublist.cons_cons _ (List.Sublist.cons_cons _ (List.Sublist.cons_cons _ (List.Sublist.cons_cons _ (List.Sublist.cons_cons _ (List.Sublist.refl _)))))))))))))))))))) ?_
  refine KAt.take 8 (Val.move rfl) rfl rfl rfl rfl (fun w hw => hw.drop (List.Sublist.cons _ (List.Sublist.cons _ (List.Sublist.cons_cons _ (List.Sublist.cons_cons _ (List.Sublist.cons_cons _ (List.Sublist.cons_cons _ (List.Sublist.cons_cons _ (List.Sublist.cons_cons _ (List.Sublist.cons_cons _ (List.Sublist.cons_cons _ (List.Sublist.cons_cons _ (List.Sublist.cons_cons _ (List.Sublist.cons_cons _ (List.Sublist.cons_cons _ (List.Sublist.cons_cons _ (List.Sublist.cons_cons _ (List.Sublist.cons_cons _ (List.Sublist.cons_cons _ (List.Sublist.refl _)))))))))))))))))))) (by decide +kernel) ?_
  refine KAt.take 9 (Val.extract rfl rfl) rfl rfl rfl rfl (fun w hw => hw.drop (List.Sublist.cons _ (List.Sublist.cons _ (List.Sublist.cons_cons _ (List.Sublist.cons_cons _ (List.Sublist.cons_cons _ (List.Sublist.cons_cons _ (List.Sublist.cons_cons _ (List.Sublist.cons_cons _ (List.Sublist.cons_cons _ (List.Sublist.cons_cons _ (List.Sublist.cons_cons _ (List.Sublist.cons_cons _ (List.Sublist.cons_cons _ (List.Sublist.cons_cons _ (List.Sublist.cons_cons _ (List.Sublist.cons_cons _ (List.Sublist.cons_cons _ (List.Sublist.cons_cons _ (List.Sublist.refl _)))))))))))))))))))) (by decide +kernel) ?_
  refine KAt.take 10 (Val.extract rfl rfl) rfl rfl rfl rfl (fun w hw => hw.drop (List.Sublist.cons _ (List.Sublist.cons _ (List.Sublist.cons_cons _ (List.Sublist.cons_cons _ (List.Sublist.cons_cons _ (List.Sublist.cons_cons _ (List.Sublist.cons_cons _ (List.Sublist.cons_cons _ (List.Sublist.cons_cons _ (List.Sublist.cons_cons _ (List.Sublist.cons_cons _ (List.Sublist.cons_cons _ (List.Sublist.cons_cons _ (List.Sublist.cons_cons _ (List.Sublist.cons_cons _ (List.Sublist.cons_cons _ (List.Sublist.cons_cons _ (List.Sublist.cons_cons _ (List.Sublist.refl _)))))))))))))))))))) (by decide +kernel) ?_
  refine KAt.take 11 (Val.assign rfl) rfl rfl rfl rfl (fun w hw => hw.drop (List.Sublist.cons _ (List.Sublist.cons _ (List.Sublist.cons_cons _ (List.Sublist.cons_cons _ (List.Sublist.cons_cons _ (List.Sublist.cons_cons _ (List.Sublist.cons_cons _ (List.Sublist.cons_cons _ (List.Sublist.cons_cons _ (List.Sublist.cons_cons _ (List.Sublist.cons_cons _ (List.Sublist.cons_cons _ (List.Sublist.cons_cons _ (List.Sublist.cons_cons _ (List.Sublist.cons_cons _ (List.Sublist.cons_cons _ (List.Sublist.cons_cons _ (List.Sublist.cons_cons _ (List.Sublist.refl _)))))))))))))))))))) (by decide +kernel) ?_
  refine KAt.done (by decide +kernel) ?_
  refine At.thenN ?_
  refine tR ?_
  refine tM rfl rfl ?_
  refine At.val (Val.bin rfl rfl rfl) rfl rfl rfl ?_
  refine tM rfl rfl ?_
  refine At.yes rfl rfl ?_
  refine tM rfl rfl ?_
  refine At.yes rfl rfl ?_
  refine At.val (Val.bin rfl rfl rfl) rfl rfl rfl ?_
  refine At.val (Val.pickT rfl rfl) rfl rfl rfl ?_
  refine tA rfl rfl ?_
  refine tE ?_
  refine At.retC ?_
  refine At.ret1 (.inl rfl) rfl rfl rfl (fun w hw => ?_)
  exact ⟨rfl, hw.mod⟩
 ·skip
  try simp only [hasB, isSizeB, Bool.not_eq_true', Bool.not_eq_false', bne_iff_ne, ne_eq, bne_eq_false_iff_eq, beq_iff_eq, beq_eq_false_iff_ne, decide_eq_true_eq, decide_eq_false_iff_not, gt_iff_lt, ge_iff_le] at h20
  refine At.skipC ?_
  refine At.thenN ?_
  refine tR ?_
  refine tM rfl rfl ?_
  obtain ⟨vs9, eb9, hv9, ha9, hl9, hR9⟩ := forget_x hv1 ha1 hg (by omega)
  obtain ⟨σ9, hσ9⟩ : ∃ σ, σ = (actsE σ1 (cleanA 0)).2 := ⟨_, rfl⟩
  rw [← hσ9] at hv9 ha9
  have hvl9 := hl9.trans hvl1
  have hlen1 : σ1.ws.length = N := by rw [hv1, mkC_length]; omega
  refine At.callD 8 rfl (fun w hw hr => (by have h0 := forget_d _ _ σ1 w (ht.mod hw.mod) (Rep.off0 hw ht (fun h => h) (i := 8) rfl) (by omega) (by omega) hr; rw [eb9, ← hσ9] at h0; exact h0)) Tryd.call26 rfl rfl (fun y29 => ?_)
  simp only [sc0, scS]
  refine tA rfl rfl ?_
  refine tE ?_
  refine At.seq ?_
  apply At.any (t := 12)
  · rfl
  refine KAt.pin (fun w hw => hw) ?_
  refine KAt.take 0 (Val.move rfl) rfl rfl rfl rfl (fun w hw => hw) (by decide +kernel) ?_
  refine KAt.take 1 (Val.field 6 rfl fo_26_6 rfl) rfl rfl rfl rfl (fun w hw => hw) (by decide +kernel) ?_
  refine KAt.take 2 (Val.load (i := 11) Tryd.isAgg24 rfl rfl rfl) rfl rfl rfl rfl (fun w hw => hw) (by decide +kernel) ?_
  refine KAt.take 4 (Val.loadAll (i := 10) Tryd.isAgg28 Tryd.sizeOf28 rfl rfl rfl) rfl rfl rfl rfl (fun w hw => hw) (by decide +kernel) ?_
  refine KAt.take 5 (Val.move rfl) rfl rfl rfl rfl (fun w hw => hw) (by decide +kernel) ?_
  refine KAt.take 6 (Val.build (fun a ha => by simp only [List.map_toArray, List.map_cons, List.map_nil, ha.eval (x := (.tmp 152)) rfl, ha.eval (x := (.tmp 153)) rfl] <;> rfl) (bld_45_0_2 _ _ _ _ _ _ _ )) rfl rfl rfl rfl (fun w hw => hw) (by decide +kernel) ?_
  refine KAt.only 3 rfl (by decide +kernel) ?_
  refine At.callRK 8 rfl (fun w hw hr => (by have h0 := crash_k _ _ _ vL cs w (hvL.mod hw.mod) (hvL.off (hw.newFoot (List.mem_of_getElem? (i := 8) rfl))) hr; rw [hv9, mkC_pick] at h0; exact h0)) Tryd.call23 rfl rfl (fun v30 => ?_)
  refine At.nil ?_
  refine KAt.go (fun w hw => hw.drop (List.Sublist.cons _ (List.Sublist.cons_cons _ (List.Sublist.cons_cons _ (List.Sublist.cons_cons _ (List.Sublist.cons_cons _ (List.Sublist.cons_cons _ (List.Sublist.cons_cons _ (List.Sublist.cons_cons _ (List.Sublist.cons_cons _ (List.Sublist.cons_cons _ (List.Sublist.cons_cons _ (List.Sublist.cons_cons _ (List.Sublist.cons_cons _ (List.Sublist.refl _))))))))))))))) ?_
  refine KAt.only 7 rfl (by decide +kernel) ?_
  refine At.callNT (g := (fun v => .tuple #[v, .int .i64 130])) (fun w hw => (by have h0 := restore_n _ _ (wbytes vs9) P I' C' (4 + I' / 8) L w (ht.mod hw.mod) (row_rd (hw.row (i := 0) rfl) (by decide)) (row_rd (hw.row (i := 10) rfl) (by decide)) (by rw [wbytes_length]; omega) (by first | omega | (simp only [List.length_take, List.length_drop]; omega) | (have h9 := growS_le L; omega)); rw [restL_no (hR9 L) (by decide), hR9 L] at h0; exact h0)) Tryd.call14 rfl rfl (fun v31 => ?_)
  refine At.nil ?_
  refine KAt.go (fun w hw => hw.drop (List.Sublist.cons _ (List.Sublist.cons _ (List.Sublist.cons_cons _ (List.Sublist.cons_cons _ (List.Sublist.cons_cons _ (List.Sublist.cons_cons _ (List.Sublist.cons_cons _ (List.Sublist.cons_cons _ (List.Sublist.cons_cons _ (List.Sublist.cons_cons _ (List.Sublist.cons_cons _ (List.Sublist.cons_cons _ (List.Sublist.cons_cons _ (List.Sublist.cons_cons _ (List.Sublist.refl _)))))))))))))))) ?_
  refine KAt.take 8 (Val.move rfl) rfl rfl rfl rfl (fun w hw => hw.drop (List.Sublist.cons _ (List.Sublist.cons _ (List.Sublist.cons_cons _ (List.Sublist.cons_cons _ (List.Sublist.cons_cons _ (List.Sublist.cons_cons _ (List.Sublist.cons_cons _ (List.Sublist.cons_cons _ (List.Sublist.cons_cons _ (List.Sublist.cons_cons _ (List.Sublist.cons_cons _ (List.Sublist.cons_cons _ (List.Sublist.cons_cons _ (List.Sublist.cons_cons _ (List.Sublist.refl _)))))))))))))))) (by decide +kernel) ?_
  refine KAt.take 9 (Val.extract rfl rfl) rfl rfl rfl rfl (fun w hw => hw.drop (List.Sublist.cons _ (List.Sublist.cons _ (List.Sublist.cons_cons _ (List.Sublist.cons_cons _ (List.Sublist.cons_cons _ (List.Sublist.cons_cons _ (List.Sublist.cons_cons _ (List.Sublist.cons_cons _ (List.Sublist.cons_cons _ (List.Sublist.cons_cons _ (List.Sublist.cons_cons _ (List.Sublist.cons_cons _ (List.Sublist.cons_cons _ (List.Sublist.cons_cons _ (List.Sublist.refl _)))))))))))))))) (by decide +kernel) ?_
  refine KAt.take 10 (Val.extract rfl rfl) rfl rfl rfl rfl (fun w hw => hw.drop (List.Sublist.cons _ (List.Sublist.cons _ (List.Sublist.cons_cons _ (List.Sublist.cons_cons _ (List.Sublist.cons_cons _ (List.Sublist.cons_cons _ (List.Sublist.cons_cons _ (List.Sublist.cons_cons _ (List.Sublist.cons_cons _ (List.Sublist.cons_cons _ (List.Sublist.cons_cons _ (List.Sublist.cons_cons _ (List.Sublist.cons_cons _ (List.Sublist.cons_cons _ (List.Sublist.refl _)))))))))))))))) (by decide +kernel) ?_
  refine KAt.take 11 (Val.assign rfl) rfl rfl rfl rfl (fun w hw => hw.drop (List.Sublist.cons _ (List.Sublist.cons _ (List.Sublist.cons_cons _ (List.Sublist.cons_cons _ (List.Sublist.cons_cons _ (List.Sublist.cons_cons _ (List.Sublist.cons_cons _ (List.Sublist.cons_cons _ (List.Sublist.cons_cons _ (List.Sublist.cons_cons _ (List.Sublist.cons_cons _ (List.Sublist.cons_cons _ (List.Sublist.cons_cons _ (List.Sublist.cons_cons _ (List.Sublist.refl _)))))))))))))))) (by decide +kernel) ?_
  refine KAt.done (by decide +kernel) ?_
  refine At.thenN ?_
  refine tR ?_
  refine tM rfl rfl ?_
  refine At.val (Val.bin rfl rfl rfl) rfl rfl rfl ?_
  refine tM rfl rfl ?_
  refine At.yes rfl rfl ?_
  refine tM rfl rfl ?_
  refine At.yes rfl rfl ?_
  refine At.val (Val.bin rfl rfl rfl) rfl rfl rfl ?_
  refine At.val (Val.pickT rfl rfl) rfl rfl rfl ?_
  refine tA rfl rfl ?_
  refine tE ?_
  refine At.retC ?_
  refine At.ret1 (.inl rfl) rfl rfl rfl (fun w hw => ?_)
  exact ⟨rfl, hw.mod⟩
end Go.Proofs.YtpihenmdkoojdaaDoor
set_option linter.unusedVariables false
set_option linter.unusedSimpArgs false
namespace Go.Wk
open Go Go.ChangeShapes Go.WideShapes Go.ChangeAt Go.RowKit
section
variable {H : Type} {enc : TypeId × Value → H} {P : Program} {W : World} {r : Reach} {base b0 : Nat} {sp : Nat → Bool} {held : Bool}
theorem each_of {p : Nat → Bool} : ∀ {ts : List TypeId} {ds : List (DataW H)} {i : Nat} {t : TypeId} {d : DataW H}, (DataW.weightsEach P ts ds).all p = true → ts[i]? = some t → ds[i]? = some d → (DataW.weights P t d).all p = true
  | t' :: ts, d' :: ds, 0, t, d, h, ht, hd => by
    simp only [DataW.weightsEach, List.all_append, Bool.and_eq_true] at h
    have e1 : t' = t := by simpa using ht
    have e2 : d' = d := by simpa using hd
    subst e1 e2; exact h.1
  | t' :: ts, d' :: ds, i + 1, t, d, h, ht, hd => by
    simp only [DataW.weightsEach, List.all_append, Bool.and_eq_true] at h
    exact each_of h.2 (by simpa using ht) (by simpa using hd)
  | [], ds, i, t, d, h, ht, hd => by simp at ht
  | t' :: ts, [], i, t, d, h, ht, hd => by simp at hd
/-- What a field's one cell is. -/
structure Fld (enc : TypeId × Value → H) (P : Program) (W : World) (r : Reach) (base b0 : Nat) (sp : Nat → Bool) (held : Bool) (t : TypeId) (c : Value) : Prop where
  ok : Cell.okWide P W r base t c
  read : ∃ fuel x, DataW.trod enc P W b0 sp held fuel t [c] = some x ∧ (DataW.weights P t x.1).all (· ≤ reachBytes) = true
theorem Fld.int {t : TypeId} {c : Value} (u : P.underlying t = some (.int .i64)) (h : Fld enc P W r base b0 sp held t c) : ∃ n, c = .int .i64 n ∧ Fits n := by
  obtain ⟨fuel, x, hf, _⟩ := h.read
  obtain ⟨n, g, _, w⟩ := DataW.trod_int u hf
  exact ⟨n, by simpa using g, has64 (by simpa [Lit.wf, IntKind.has] using w)⟩
theorem Fld.word {t : TypeId} {c : Value} (u : P.underlying t = some (.int .u64)) (h : Fld enc P W r base b0 sp held t c) : ∃ x, c = b64 x := by
  obtain ⟨fuel, x, hf, _⟩ := h.read
  obtain ⟨n, g, _, w⟩ := DataW.trod_int u hf
  obtain ⟨x, rfl⟩ := hasU64 (n := n) (by simpa [Lit.wf, IntKind.has] using w)
  exact ⟨x, by simpa using g⟩
theorem Fld.ints {t e : TypeId} {c : Value} (hu : P.underlying t = some (.slice e)) (he : P.underlying e = some (.int .i64)) (hc : P.cellsOf e = 1) (hby : P.bytesOf e = 8)
    (h : Fld enc P W r base b0 sp held t c) : ∃ L : List Int, RdI W c L ∧ L.length ≤ 17592186044416 ∧ ∀ z ∈ L, Fits z := by
  obtain ⟨fuel, x, hf, hw⟩ := h.read
  exact ints_of hu he hc hby (cell_slice hu h.ok) hf hw
theorem words_of {t e : TypeId} {v : Value} {fuel : Nat} {x : DataW H × List MemPlace} (hu : P.underlying t = some (.slice e)) (he : P.underlying e = some (.int .u64)) (hc : P.cellsOf e = 1) (hby : P.bytesOf e = 8)
    (hok : v = .slice none 0 0 ∨ ∃ b o n c, v = .slice (some ⟨b, o, none⟩) n c ∧ n ≤ c) (hf : DataW.trod enc P W b0 sp held fuel t [v] = some x) (hw : (DataW.weights P t x.1).all (· ≤ reachBytes) = true) :
    ∃ L : List (BitVec 64), RdW W v L ∧ L.length ≤ 17592186044416 := by
  rcases hok with rfl | ⟨b, o, n, c, rfl, hnc⟩
  · exact ⟨[], Rd.nil W 1, by simp⟩
  · rcases open_ints hu he hc hf with ⟨h0, _⟩ | ⟨a, len, cap, zs, h0, _, hl, _, hz, hx, hcell, hwf⟩
    · simp at h0
    · simp only [List.cons.injEq, Value.slice.injEq, Option.some.injEq, and_true] at h0
      obtain ⟨rfl, rfl, rfl⟩ := h0
      have hlen : n ≤ zs.length := by rw [hz]; split <;> omega
      have hln : (zs.take n).length = n := by rw [List.length_take]; omega
      have hxe : x.1 = _ := congrArg Prod.fst hx
      have hdw : zs.length * 8 ≤ reachBytes := by
        have hall := List.all_eq_true.1 hw
        rw [hxe] at hall
        unfold DataW.weights at hall
        rw [hu] at hall
        have := hall _ (List.mem_cons_self ..)
        simp only [decide_eq_true_eq, hby, lits, List.length_map] at this
        rw [← List.length_append, List.take_append_drop] at this
        exact this
      refine ⟨(zs.take n).map (BitVec.ofInt 64), ⟨some ⟨b, o, none⟩, c, by rw [List.length_map, hln], fun j u hj => ?_, by rw [List.length_map, Nat.mul_one], by rw [List.length_map, hln]; exact hnc, (fun h => by cases h), (fun _ a ha => by cases ha; rfl)⟩, ?_⟩
      · rw [List.getElem?_map, List.getElem?_map, List.getElem?_take] at hj
        split at hj
        · rename_i hlt
          refine ⟨b, o, rfl, ?_⟩
          have h1 := hcell j (by omega)
          rw [Addr.add_off] at h1
          rw [h1]
          have hjl : j < zs.length := by omega
          rw [List.getElem?_eq_getElem hjl] at hj
          have hg : zs.getD j 0 = zs[j] := by simp [List.getD, hjl]
          rw [hg]
          obtain ⟨q, hq⟩ := hasU64 (n := zs[j]) (by simpa [Lit.wf, IntKind.has] using hwf _ (List.getElem_mem hjl))
          rw [← hj, hq]; simp
        · cases hj
      · rw [List.length_map, hln]; unfold reachBytes at hdw; omega
theorem Fld.words {t e : TypeId} {c : Value} (hu : P.underlying t = some (.slice e)) (he : P.underlying e = some (.int .u64)) (hc : P.cellsOf e = 1) (hby : P.bytesOf e = 8)
    (h : Fld enc P W r base b0 sp held t c) : ∃ L : List (BitVec 64), RdW W c L ∧ L.length ≤ 17592186044416 := by
  obtain ⟨fuel, x, hf, hw⟩ := h.read
  exact words_of hu he hc hby (cell_slice hu h.ok) hf hw
theorem Fld.bytes {t e : TypeId} {c : Value} (hu : P.underlying t = some (.slice e)) (he : P.underlying e = some (.int .u8)) (hc : P.cellsOf e = 1) (hby : P.bytesOf e = 1)
    (h : Fld enc P W r base b0 sp held t c) : ∃ L : List UInt8, RdB W c L ∧ L.length ≤ 140737488351232 := by
  obtain ⟨fuel, x, hf, hw⟩ := h.read
  have hok := cell_slice hu h.ok
  have hv : c.cells.toList = [c] := by rcases hok with rfl | ⟨_, _, _, _, rfl, _⟩ <;> rfl
  obtain ⟨A, cc, l, rfl, hb, hcc, hm, hz, hp⟩ := arg_byteslice (r := r) (base := base) hu he hc hby (by unfold Value.okWide; rw [hu]; exact h.ok) (⟨fuel, by rw [hv]; exact hf⟩ : DataW.Trod enc P W b0 sp held t c x.1 x.2) hw
  exact ⟨l, Bytes.rd hb hcc hz hp, hm⟩
end
end Go.Wk
set_option linter.unusedVariables false
set_option linter.unusedSimpArgs false
namespace Go.Proofs.YtpihenmdkoojdaaDoor
open Go Go.Wk
open Go.ChangeShapes Go.WideShapes Go.ChangeAt Go.RowKit
section
variable {H : Type} {enc : TypeId × Value → H} {P : Program} {W : World} {r : Reach} {base b0 : Nat} {held : Bool}
theorem all_of {p : Nat → Bool} {e : TypeId} : ∀ {ds : List (DataW H)} {i : Nat} {d : DataW H}, (DataW.weightsAll P e ds).all p = true → ds[i]? = some d → (DataW.weights P e d).all p = true
  | d' :: ds, 0, d, h, hd => by
    simp only [DataW.weightsAll, List.all_append, Bool.and_eq_true] at h
    obtain rfl : d' = d := by simpa using hd
    exact h.1
  | d' :: ds, i + 1, d, h, hd => by
    simp only [DataW.weightsAll, List.all_append, Bool.and_eq_true] at h
    exact all_of h.2 (by simpa using hd)
  | [], i, d, h, hd => by simp at hd
/-- What a cell reads as, wherever it stands. -/
def Fl (enc : TypeId × Value → H) (P : Program) (W : World) (b0 : Nat) (held : Bool) (t : TypeId) (c : Value) : Prop :=
  ∃ fuel x, DataW.trod enc P W b0 (fun _ => true) held fuel t [c] = some x ∧ (DataW.weights P t x.1).all (· ≤ reachBytes) = true
theorem Fl.int {t : TypeId} {c : Value} (u : P.underlying t = some (.int .i64)) (h : Fl enc P W b0 held t c) : ∃ n, c = .int .i64 n ∧ Fits n := by
  obtain ⟨fuel, x, hf, _⟩ := h
  obtain ⟨n, g, _, w⟩ := DataW.trod_int u hf
  exact ⟨n, by simpa using g, has64 (by simpa [Lit.wf, IntKind.has] using w)⟩
theorem Fl.word {t : TypeId} {c : Value} (u : P.underlying t = some (.int .u64)) (h : Fl enc P W b0 held t c) : ∃ x, c = b64 x := by
  obtain ⟨fuel, x, hf, _⟩ := h
  obtain ⟨n, g, _, w⟩ := DataW.trod_int u hf
  obtain ⟨x, rfl⟩ := hasU64 (n := n) (by simpa [Lit.wf, IntKind.has] using w)
  exact ⟨x, by simpa using g⟩
theorem Fl.nums {t e : TypeId} {k : IntKind} {c : Value} (hu : P.underlying t = some (.slice e)) (he : P.underlying e = some (.int k)) (hc : P.cellsOf e = 1) (h : Fl enc P W b0 held t c) :
    ∃ zs : List Int, Rd W c 1 zs.length (zs.map (Value.int k)) ∧ zs.length * P.bytesOf e ≤ reachBytes ∧ ∀ z ∈ zs, (Lit.int k z).wf = true := by
  obtain ⟨fuel, x, hf, hw⟩ := h
  rcases open_ints hu he hc hf with ⟨h0, _⟩ | ⟨a, len, cap, zs, h0, _, hl, _, hz, hx, hcell, hwf⟩
  · obtain rfl : c = .slice none 0 0 := by simpa using h0
    exact ⟨[], Rd.nil W 1, by simp, by simp⟩
  · obtain rfl : c = .slice (some a) len cap := by simpa using h0
    simp only [if_true] at hz
    have hxe : x.1 = _ := congrArg Prod.fst hx
    have hdw : zs.length * P.bytesOf e ≤ reachBytes := by
      have hall := List.all_eq_true.1 hw
      rw [hxe] at hall
      unfold DataW.weights at hall
      rw [hu] at hall
      have := hall _ (List.mem_cons_self ..)
      simp only [decide_eq_true_eq, lits, List.length_map] at this
      rw [← List.length_append, List.take_append_drop] at this
      exact this
    have hln : (zs.take len).length = len := by rw [List.length_take]; omega
    have hsp : ∀ j, j < zs.length → a.spot = none := fun j hj => by
      have := World.cell?_spot (hcell 0 (by omega))
      simpa [Addr.add] using this
    refine ⟨zs.take len, ⟨some a, cap, by rw [hln], fun j u hj => ?_, by rw [List.length_map, Nat.mul_one], by omega, (fun h => by cases h), (fun hc0 a' ha => by cases ha; exact hsp 0 (by omega))⟩, Nat.le_trans (Nat.mul_le_mul_right _ (by omega)) hdw, fun z hm => hwf z (List.mem_of_mem_take hm)⟩
    rw [List.getElem?_map, List.getElem?_take] at hj
    split at hj
    · rename_i hlt
      have hjl : j < zs.length := by omega
      have hs := hsp j hjl
      obtain ⟨b, o, s⟩ := a
      have hs' : s = none := hs
      subst hs'
      refine ⟨b, o, rfl, ?_⟩
      have h1 := hcell j hjl
      rw [Addr.add_off] at h1
      rw [h1, ← hj, List.getElem?_eq_getElem hjl]
      simp [List.getD, hjl]
    · cases hj
theorem Fl.ints {t e : TypeId} {c : Value} (hu : P.underlying t = some (.slice e)) (he : P.underlying e = some (.int .i64)) (hc : P.cellsOf e = 1) (hby : P.bytesOf e = 8) (h : Fl enc P W b0 held t c) :
    ∃ L : List Int, RdI W c L ∧ L.length ≤ 17592186044416 := by
  obtain ⟨zs, h1, h2, _⟩ := Fl.nums hu he hc h
  rw [hby] at h2
  unfold reachBytes at h2
  exact ⟨zs, h1, by omega⟩
theorem Fl.bytes {t e : TypeId} {c : Value} (hu : P.underlying t = some (.slice e)) (he : P.underlying e = some (.int .u8)) (hc : P.cellsOf e = 1) (hby : P.bytesOf e = 1) (h : Fl enc P W b0 held t c) :
    ∃ L : List UInt8, RdB W c L ∧ L.length ≤ 140737488355328 := by
  obtain ⟨zs, h1, h2, h3⟩ := Fl.nums hu he hc h
  rw [hby] at h2
  unfold reachBytes at h2
  have he : zs.map (Value.int .u8) = (zs.map (fun z => UInt8.ofNat z.toNat)).map bv := by
    rw [List.map_map]
    refine List.map_congr_left fun z hz => ?_
    obtain ⟨q, rfl⟩ := hasU8 (n := z) (by simpa [Lit.wf, IntKind.has] using h3 z hz)
    simp [bv]
  refine ⟨zs.map (fun z => UInt8.ofNat z.toNat), ?_, by rw [List.length_map]; omega⟩
  unfold RdB
  rw [List.length_map, ← he]
  exact h1
/-- What a list of elements holds, element by element. -/
theorem elems_of {t e : TypeId} {v : Value} {fuel n : Nat} {x : DataW H × List MemPlace} (hu : P.underlying t = some (.slice e)) (hc : P.cellsOf e = n)
    (hf : DataW.trod enc P W b0 (fun _ => true) held fuel t [v] = some x) (hw : (DataW.weights P t x.1).all (· ≤ reachBytes) = true) :
    v = .slice none 0 0 ∨ ∃ a len cap, v = .slice (some a) len cap ∧ len ≤ cap ∧ len * P.bytesOf e ≤ reachBytes ∧ ∀ i, i < len → ∃ cs fuel y, cs.length = n ∧ (∀ j, j < n → W.cell? ((a.add (i * n)).add j) = cs[j]?) ∧ DataW.trod enc P W b0 (fun _ => true) held fuel e cs = some y ∧ (DataW.weights P e y.1).all (· ≤ reachBytes) = true := by
  rcases DataW.trod_slice hu hf with ⟨h0, _⟩ | ⟨a, len, cap, elems, rest, m, _, h0, rfl, hb, hl, hm, hlen, hel, hsp, hns⟩
  · left; simpa using h0
  · right
    refine ⟨a, len, cap, by simpa using h0, hl, ?_, fun i hi => ?_⟩
    · have hall := List.all_eq_true.1 hw
      unfold DataW.weights at hall
      rw [hu] at hall
      have := hall _ (List.mem_cons_self ..)
      simp only [decide_eq_true_eq, List.length_map, hlen] at this
      exact Nat.le_trans (Nat.mul_le_mul_right _ (Nat.le_add_right _ _)) this
    · have h1 := hel i hi
      rw [hc, List.getElem?_eq_getElem (by omega), Option.bind_eq_some_iff] at h1
      obtain ⟨cs, h2, h3⟩ := h1
      have h4 := World.cells?_some h2
      refine ⟨cs, m, _, h4.2.1, h4.2.2, h3, ?_⟩
      · unfold DataW.weights at hw
        rw [hu] at hw
        simp only [List.all_cons, List.all_append, Bool.and_eq_true] at hw
        exact all_of (i := i) hw.2.1 (by rw [List.getElem?_map, List.getElem?_eq_getElem (show i < elems.length by omega)]; rfl)
end
section
variable {H : Type} {enc : TypeId × Value → H} {P : Program} {W : World} {base b0 : Nat} {held : Bool}
/-- What cells in a row read as. -/
def FlL (enc : TypeId × Value → H) (P : Program) (W : World) (b0 : Nat) (held : Bool) (t : TypeId) (cs : List Value) : Prop :=
  ∃ fuel x, DataW.trod enc P W b0 (fun _ => true) held fuel t cs = some x ∧ (DataW.weights P t x.1).all (· ≤ reachBytes) = true
theorem flL_field {t u : TypeId} {fs : Array Field} {cs : List Value} {i o n : Nat} {f : Field} (ht : P.underlying t = some (.struct fs)) (h : FlL enc P W b0 held t cs) (hfi : fs[i]? = some f) (ho : f.offset = o) (hu : f.type = u) (hn : P.cellsOf u = n) : FlL enc P W b0 held u ((cs.drop o).take n) := by
  obtain ⟨fuel, x, hf, hw⟩ := h
  obtain ⟨xs, m, rfl, hx, _, hsz, hfl⟩ := DataW.trod_struct ht hf
  have h1 := hfl i f hfi
  rw [ho, hu, hn] at h1
  have hil : i < fs.size := (Array.getElem?_eq_some_iff.1 hfi).1
  have hxl : i < xs.length := by rw [hsz]; exact hil
  rw [List.getElem?_eq_getElem hxl] at h1
  refine ⟨m, _, h1, ?_⟩
  have hxe : x.1 = _ := congrArg Prod.fst hx
  rw [hxe] at hw
  unfold DataW.weights at hw
  rw [ht] at hw
  refine each_of hw (i := i) ?_ (by rw [List.getElem?_map, List.getElem?_eq_getElem hxl]; rfl)
  rw [List.getElem?_map, Array.getElem?_toList, hfi]
  exact congrArg some hu
theorem slice_spot {t e : TypeId} {fuel n len cap : Nat} {a : Addr} {x : DataW H × List MemPlace} (hu : P.underlying t = some (.slice e)) (hc : P.cellsOf e = n) (hn : 0 < n) (hf : DataW.trod enc P W b0 (fun _ => true) held fuel t [.slice (some a) len cap] = some x) (h0 : 0 < cap) : a.spot = none := by
  rcases DataW.trod_slice hu hf with ⟨h, _⟩ | ⟨a', len', cap', elems, rest, m, _, h1, rfl, hb, hl, hm, hlen, hel, hsp, hns⟩
  · simp at h
  · simp only [List.cons.injEq, Value.slice.injEq, Option.some.injEq, and_true] at h1
    obtain ⟨rfl, rfl, rfl⟩ := h1
    have key : ∀ y, (W.cells? b0 (a.add (0 * P.cellsOf e)) (P.cellsOf e)).bind (DataW.trod enc P W b0 (fun _ => true) held m e) = some y → a.spot = none := fun y hy => by
      rw [hc, Option.bind_eq_some_iff] at hy
      obtain ⟨cs, h2, _⟩ := hy
      have h4 := World.cells?_some h2
      have h5 := h4.2.2 0 hn
      rw [List.getElem?_eq_getElem (by rw [h4.2.1]; exact hn)] at h5
      have := World.cell?_spot h5
      simpa [Addr.add] using this
    rcases Nat.eq_zero_or_pos len with h | h
    · obtain ⟨g1, g2⟩ := hsp rfl
      have g3 := g2 0 (by omega)
      obtain ⟨y, hy⟩ : ∃ y, rest[0]? = some y := ⟨_, List.getElem?_eq_getElem (by omega)⟩
      rw [hy, h, Nat.zero_add] at g3
      exact key _ g3
    · have g3 := hel 0 h
      rw [List.getElem?_eq_getElem (by omega)] at g3
      exact key _ g3
theorem Fl.spans {t e ti : TypeId} {fs : Array Field} {f0 f1 : Field} {c : Value} (hu : P.underlying t = some (.slice e)) (he : P.underlying e = some (.struct fs)) (hc : P.cellsOf e = 2) (hby : P.bytesOf e = 16)
    (hf0 : fs[0]? = some f0) (hf1 : fs[1]? = some f1) (o0 : f0.offset = 0) (o1 : f1.offset = 1) (t0 : f0.type = ti) (t1 : f1.type = ti) (ui : P.underlying ti = some (.int .i64)) (ci : P.cellsOf ti = 1) (h : Fl enc P W b0 held t c) :
    ∃ L : List (Int × Int), RdS W c L ∧ L.length ≤ 8796093022144 := by
  obtain ⟨fuel, x, hf, hw⟩ := h
  rcases elems_of (n := 2) hu hc hf hw with rfl | ⟨a, len, cap, rfl, hlc, hb, hel⟩
  · exact ⟨[], Rd.nil W 2, by simp⟩
  · rw [hby] at hb
    unfold reachBytes at hb
    obtain ⟨L, hLl, hL⟩ := choose_list' (Q := fun j (z : Int × Int) => W.cell? ((a.add (j * 2)).add 0) = some (.int .i64 z.1) ∧ W.cell? ((a.add (j * 2)).add 1) = some (.int .i64 z.2)) len (fun j hj => by
      obtain ⟨cs, fu, y, h1, h2, h3, h4⟩ := hel j hj
      obtain ⟨c0, c1, rfl⟩ : ∃ c0 c1, cs = [c0, c1] := by match cs, h1 with | [c0, c1], _ => exact ⟨c0, c1, rfl⟩
      obtain ⟨n0, rfl, _⟩ := Fl.int ui (flL_field he ⟨fu, y, h3, h4⟩ hf0 o0 t0 ci)
      obtain ⟨n1, rfl, _⟩ := Fl.int ui (flL_field he ⟨fu, y, h3, h4⟩ hf1 o1 t1 ci)
      exact ⟨(n0, n1), h2 0 (by decide), h2 1 (by decide)⟩)
    subst hLl
    have hsp : 0 < cap → a.spot = none := slice_spot hu hc (by decide) hf
    refine ⟨L, ⟨some a, cap, rfl, fun j u hj => ?_, prS_length L, hlc, (fun h => by cases h), (fun hc0 a' ha => by cases ha; exact hsp hc0)⟩, by omega⟩
    have hjl : j < L.length * 2 := by rw [← prS_length L]; exact (List.getElem?_eq_some_iff.1 hj).1
    have hq : L[j / 2]? = some (L[j / 2]'(by omega)) := List.getElem?_eq_getElem _
    have hz := hL (j / 2) _ hq
    have hp := prS_at hq
    have hs := hsp (by omega)
    obtain ⟨b, o, s⟩ := a
    have hs' : s = none := hs
    subst hs'
    refine ⟨b, o, rfl, ?_⟩
    rcases Nat.mod_two_eq_zero_or_one j with hm | hm
    · have e : j / 2 * 2 = j := by omega
      rw [e] at hp hz
      rw [hj] at hp
      rw [Option.some.inj hp.1]
      have := hz.1
      rwa [Addr.add_off, Addr.add_off, Nat.add_zero] at this
    · have e : j / 2 * 2 + 1 = j := by omega
      rw [e] at hp
      rw [hj] at hp
      rw [Option.some.inj hp.2]
      have := hz.2
      rwa [Addr.add_off, Addr.add_off, Nat.add_assoc, e] at this
end
section
variable {H : Type} {enc : TypeId × Value → H} {P : Program} {W : World} {base b0 : Nat} {held : Bool}
theorem Fl.bools {t e : TypeId} {c : Value} (hu : P.underlying t = some (.slice e)) (he : P.underlying e = some .bool) (hc : P.cellsOf e = 1) (hby : P.bytesOf e = 1) (h : Fl enc P W b0 held t c) :
    ∃ L : List Bool, Rd W c 1 L.length (L.map Value.bool) ∧ L.length ≤ 140737488355328 := by
  obtain ⟨fuel, x, hf, hw⟩ := h
  rcases elems_of (n := 1) hu hc hf hw with rfl | ⟨a, len, cap, rfl, hlc, hb, hel⟩
  · exact ⟨[], Rd.nil W 1, by simp⟩
  · rw [hby] at hb
    unfold reachBytes at hb
    obtain ⟨L, hLl, hL⟩ := choose_list' (Q := fun j (z : Bool) => W.cell? ((a.add (j * 1)).add 0) = some (.bool z)) len (fun j hj => by
      obtain ⟨cs, fu, y, h1, h2, h3, h4⟩ := hel j hj
      obtain ⟨c0, rfl⟩ : ∃ c0, cs = [c0] := by match cs, h1 with | [c0], _ => exact ⟨c0, rfl⟩
      obtain ⟨b, g, _⟩ := DataW.trod_bool he h3
      obtain rfl : c0 = .bool b := by simpa using g
      exact ⟨b, h2 0 (by decide)⟩)
    subst hLl
    have hsp : 0 < cap → a.spot = none := slice_spot hu hc (by decide) hf
    refine ⟨L, ⟨some a, cap, rfl, fun j u hj => ?_, by rw [List.length_map, Nat.mul_one], hlc, (fun h => by cases h), (fun hc0 a' ha => by cases ha; exact hsp hc0)⟩, by omega⟩
    have hjl : j < L.length := by have := (List.getElem?_eq_some_iff.1 hj).1; rwa [List.length_map] at this
    have hq : L[j]? = some (L[j]'hjl) := List.getElem?_eq_getElem _
    have hz := hL j _ hq
    rw [List.getElem?_map, hq] at hj
    obtain rfl := Option.some.inj hj
    have hs := hsp (by omega)
    obtain ⟨b, o, s⟩ := a
    have hs' : s = none := hs
    subst hs'
    refine ⟨b, o, rfl, ?_⟩
    rwa [Addr.add_off, Addr.add_off, Nat.add_zero, Nat.mul_one] at hz
theorem Fl.pairs {t e ti tu : TypeId} {fs : Array Field} {f0 f1 : Field} {c : Value} (hu : P.underlying t = some (.slice e)) (he : P.underlying e = some (.struct fs)) (hc : P.cellsOf e = 2) (hby : P.bytesOf e = 16)
    (hf0 : fs[0]? = some f0) (hf1 : fs[1]? = some f1) (o0 : f0.offset = 0) (o1 : f1.offset = 1) (t0 : f0.type = ti) (t1 : f1.type = tu) (ui : P.underlying ti = some (.int .i64)) (uu : P.underlying tu = some (.int .u64)) (ci : P.cellsOf ti = 1) (cu : P.cellsOf tu = 1) (h : Fl enc P W b0 held t c) :
    ∃ L : List (Int × BitVec 64), RdP W c L ∧ L.length ≤ 8796093022208 := by
  obtain ⟨fuel, x, hf, hw⟩ := h
  rcases elems_of (n := 2) hu hc hf hw with rfl | ⟨a, len, cap, rfl, hlc, hb, hel⟩
  · exact ⟨[], Rd.nil W 2, by simp⟩
  · rw [hby] at hb
    unfold reachBytes at hb
    obtain ⟨L, hLl, hL⟩ := choose_list' (Q := fun j (z : Int × BitVec 64) => W.cell? ((a.add (j * 2)).add 0) = some (.int .i64 z.1) ∧ W.cell? ((a.add (j * 2)).add 1) = some (b64 z.2)) len (fun j hj => by
      obtain ⟨cs, fu, y, h1, h2, h3, h4⟩ := hel j hj
      obtain ⟨c0, c1, rfl⟩ : ∃ c0 c1, cs = [c0, c1] := by match cs, h1 with | [c0, c1], _ => exact ⟨c0, c1, rfl⟩
      obtain ⟨n0, rfl, _⟩ := Fl.int ui (flL_field he ⟨fu, y, h3, h4⟩ hf0 o0 t0 ci)
      obtain ⟨n1, rfl⟩ := Fl.word uu (flL_field he ⟨fu, y, h3, h4⟩ hf1 o1 t1 cu)
      exact ⟨(n0, n1), h2 0 (by decide), h2 1 (by decide)⟩)
    subst hLl
    have hsp : 0 < cap → a.spot = none := slice_spot hu hc (by decide) hf
    refine ⟨L, ⟨some a, cap, rfl, fun j u hj => ?_, prC_length L, hlc, (fun h => by cases h), (fun hc0 a' ha => by cases ha; exact hsp hc0)⟩, by omega⟩
    have hjl : j < L.length * 2 := by rw [← prC_length L]; exact (List.getElem?_eq_some_iff.1 hj).1
    have hq : L[j / 2]? = some (L[j / 2]'(by omega)) := List.getElem?_eq_getElem _
    have hz := hL (j / 2) _ hq
    have hp := prC_at hq
    have hs := hsp (by omega)
    obtain ⟨b, o, s⟩ := a
    have hs' : s = none := hs
    subst hs'
    refine ⟨b, o, rfl, ?_⟩
    rcases Nat.mod_two_eq_zero_or_one j with hm | hm
    · have e : j / 2 * 2 = j := by omega
      rw [e] at hp hz
      rw [hj] at hp
      rw [Option.some.inj hp.1]
      have := hz.1
      rwa [Addr.add_off, Addr.add_off, Nat.add_zero] at this
    · have e : j / 2 * 2 + 1 = j := by omega
      rw [e] at hp
      rw [hj] at hp
      rw [Option.some.inj hp.2]
      have := hz.2
      rwa [Addr.add_off, Addr.add_off, Nat.add_assoc, e] at this
end
section
variable {H : Type} {enc : TypeId × Value → H} {W : World} {base b0 : Nat} {held : Bool}
set_option maxRecDepth 100000 in
theorem arg_case {r : Reach} {v : Value} {d : DataW H} {ps : List MemPlace} (h : Value.okWide Tryd.prog W r base 26 v) (hd : DataW.Trod enc Tryd.prog W b0 (fun _ => true) held 26 v d ps) (hw : (DataW.weights Tryd.prog 26 d).all (· ≤ reachBytes) = true) :
    ∃ (pg ino co lf : Int) (vM vW vL : Value) (MS : List Bool) (WS : List (Int × BitVec 64)) (cs : List Int), v = .agg #[.int .i64 pg, .int .i64 ino, .int .i64 co, vM, vW, .int .i64 lf, vL] ∧ Rd W vM 1 MS.length (MS.map Value.bool) ∧ MS.length ≤ 140737488355328 ∧ RdP W vW WS ∧ WS.length ≤ 8796093022208 ∧ RdI W vL cs ∧ cs.length ≤ 17592186044416 ∧ (-9223372036854775808 ≤ lf ∧ lf ≤ 9223372036854775807) := by
  obtain ⟨fuel, hf⟩ := hd
  have U := Tryd.underlying26
  obtain ⟨cs, rfl, hl, _⟩ := arg_struct U h
  rw [show Tryd.prog.cellsOf 26 = 7 by kernel_rfl] at hl
  have hcs : (Value.agg cs.toArray).cells.toList = cs := by simp [Value.cells]
  rw [hcs] at hf
  obtain ⟨c0, c1, c2, c3, c4, c5, c6, rfl⟩ : ∃ c0 c1 c2 c3 c4 c5 c6, cs = [c0, c1, c2, c3, c4, c5, c6] := by
    match cs, hl with
    | [c0, c1, c2, c3, c4, c5, c6], _ => exact ⟨c0, c1, c2, c3, c4, c5, c6, rfl⟩
  have hr : FlL enc Tryd.prog W b0 held 26 [c0, c1, c2, c3, c4, c5, c6] := ⟨fuel, _, hf, hw⟩
  obtain ⟨pg, rfl, _⟩ := Fl.int Tryd.underlying3 (flL_field (i := 0) (o := 0) (n := 1) (u := 3) U hr rfl rfl rfl (by kernel_rfl))
  obtain ⟨ino, rfl, _⟩ := Fl.int Tryd.underlying3 (flL_field (i := 1) (o := 1) (n := 1) (u := 3) U hr rfl rfl rfl (by kernel_rfl))
  obtain ⟨co, rfl, _⟩ := Fl.int Tryd.underlying3 (flL_field (i := 2) (o := 2) (n := 1) (u := 3) U hr rfl rfl rfl (by kernel_rfl))
  obtain ⟨lM, hM, hMl⟩ := Fl.bools Tryd.underlying22 Tryd.underlying4 (by kernel_rfl) (by kernel_rfl) (flL_field (i := 3) (o := 3) (n := 1) (u := 22) U hr rfl rfl rfl (by kernel_rfl))
  obtain ⟨lW, hW, hWl⟩ := Fl.pairs (ti := 3) (tu := 65) Tryd.underlying23 Tryd.underlying67 (by kernel_rfl) (by kernel_rfl) rfl rfl rfl rfl rfl rfl Tryd.underlying3 Tryd.underlying65 (by kernel_rfl) (by kernel_rfl) (flL_field (i := 4) (o := 4) (n := 1) (u := 23) U hr rfl rfl rfl (by kernel_rfl))
  obtain ⟨lf, rfl, hlf⟩ := Fl.int Tryd.underlying3 (flL_field (i := 5) (o := 5) (n := 1) (u := 3) U hr rfl rfl rfl (by kernel_rfl))
  obtain ⟨lI, hI, hIl⟩ := Fl.ints Tryd.underlying24 Tryd.underlying3 (by kernel_rfl) (by kernel_rfl) (flL_field (i := 6) (o := 6) (n := 1) (u := 24) U hr rfl rfl rfl (by kernel_rfl))
  exact ⟨pg, ino, co, lf, c3, c4, c6, lM, lW, lI, rfl, hM, hMl, hW, hWl, hI, hIl, hlf⟩
end
end Go.Proofs.YtpihenmdkoojdaaDoor
