/- The bytes that a device tells, and those that a crash leaves. -/
import Derived.Test.YtgighokkflchmaaP8
set_option linter.unusedVariables false
set_option linter.unusedSimpArgs false
namespace Go.Proofs.Ytgighokkflchmaa
open Go Go.Wk
theorem bytes_k (p : Nat) (γ : Gh) (σ : Ds) (fid : FuncId) (caps : List Value) (pk : Nat → Nat → BitVec 64) (w : World) (hcall : ∀ args w, (callFunc fid args).run Try.prog w = .ok (.enter fid args) w) (hp : ∀ w', Mod (feet [Dev p γ σ]) w w' → (Dev p γ σ).holds w' → ∀ (K k : Nat) (wd : Wd), (dk σ.ws)[K]? = some k → σ.ws[k]? = some wd → wd.news ≠ [] → Upd Try.prog fid ([.int .i64 (K : Int), .int .i64 (8 * (k : Int)), .pointer (some ⟨(γ.g k).1, 0, none⟩)] ++ caps) (Dev p γ σ) (b64 (pk K k)) (Dev p γ σ) w') (hd : (Dev p γ σ).holds w) :
    RowK Try.prog 25 [.pointer (some ⟨p, 0, none⟩), .func (.func fid) #[] caps.toArray] (Dev p γ σ) 5 1 (wbytes (picked σ.ws pk)).length ((wbytes (picked σ.ws pk)).map bv) w := by
 refine enterV hd Try.func25 rfl Try.ntmps25 rfl ?_
 unfold devL
 have hgd := Dev.good hd
 have hln := hgd.len
 have hps := hgd.pos
 have hdl : (dk σ.ws).length ≤ σ.ws.length := Nat.le_trans (List.length_filter_le _ _) (by rw [List.length_range]; exact Nat.le_refl _)
 simp only [envOf]
 refine tR ?_
 refine tA rfl rfl ?_
 refine tE ?_
 refine tR ?_
 refine tM rfl rfl ?_
 refine At.callKS (devL p γ σ) rfl (fun w hw hr => size_k _ _ _ w hr) Try.call40 rfl rfl ?_
 rw [show 8 * (σ.ws.length : Int) = (((8 * σ.ws.length : Nat)) : Int) from by omega]
 refine At.makeRowB (n := (8 * σ.ws.length)) Try.underlying36 info_5 rfl rfl rfl rfl rfl (by omega) rfl (fun v1 => ?_)
 rw [← wbytes_zero]
 refine At.rowSome (i := 0) rfl (by rw [wbytes_length, List.length_replicate]; omega) (fun b2 c3 hv4 => ?_)
 subst hv4
 refine At.rowCapD (i := 0) rfl (fun hcap => ?_)
 rw [wbytes_length, List.length_replicate] at hcap ⊢
 refine At.sink5 ?_
 refine tA rfl rfl ?_
 refine tE ?_
 refine At.seq ?_
 refine tR ?_
 refine tM rfl rfl ?_
 refine At.val (Val.nilCheck rfl) rfl rfl rfl ?_
 refine At.val (Val.field 0 rfl fo_71_0 rfl) rfl rfl rfl ?_
 refine At.val (Val.load (i := 0) Try.isAgg66 rfl rfl rfl) rfl rfl rfl ?_
 refine At.val (Val.lenRow (i := 1) Try.underlying66 rfl rfl) rfl rfl rfl ?_
 refine tM rfl rfl ?_
 refine tE ?_
 refine At.block ?_
 skip
 refine At.loop (σ := Nat) (fun k => k ≤ σ.ws.length) (fun k => [(0, .pointer (some ⟨p, 0, none⟩)), (1, .func (.func fid) #[] caps.toArray), (5, (.slice (some ⟨b2, 0, none⟩) ((8 * σ.ws.length)) c3)), (16, γ.vo), (17, .int .i64 (σ.ws.length : Int)), (18, .int .i64 (k : Int))]) (fun k => [blk p tDv [γ.vo, .map (some γ.mb), .int .i64 (σ.steps : Int), .bool σ.armed, .int .i64 (σ.left : Int)], wrow tW γ.vo (olds σ.ws), mapR γ.mb (mk σ.ws γ.g), fam (dI σ.ws γ.g), factR (Dgood σ), brow 5 (.slice (some ⟨b2, 0, none⟩) ((8 * σ.ws.length)) c3) (wbytes ((olds σ.ws).take k ++ List.replicate ((olds σ.ws).length - k) 0))]) (fun k => σ.ws.length - k) 0 (Nat.zero_le _) (Sub.cons rfl (Sub.cons rfl (Sub.cons rfl (Sub.cons rfl (Sub.cons (congrArg (fun z => some (Value.int IntKind.i64 z)) (by rw [olds_length])) (Sub.cons rfl Sub.nil)))))) (by rw [List.take_zero, List.nil_append, Nat.sub_zero, olds_length, brow, wbytes_length, List.length_replicate]) ?_
 intro k hs
 have hl1 : ((olds σ.ws).take k ++ List.replicate ((olds σ.ws).length - k) 0).length = σ.ws.length := by rw [List.length_append, List.length_take, List.length_replicate, olds_length]; omega
 refine tR ?_
 refine At.val (Val.bin rfl rfl rfl) rfl rfl rfl ?_
 refine tE ?_
 refine At.seq ?_
 refine At.cond rfl (fun h5 => ?_) (fun h5 => ?_)
 ·skip
  try simp only [hasB, isSizeB, Bool.not_eq_true', Bool.not_eq_false', bne_iff_ne, ne_eq, bne_eq_false_iff_eq, beq_iff_eq, beq_eq_false_iff_ne, decide_eq_true_eq, decide_eq_false_iff_not, gt_iff_lt, ge_iff_le] at h5
  have hk0 : k < σ.ws.length := by omega
  obtain ⟨wd, hk⟩ : ∃ wd, σ.ws[k]? = some wd := ⟨_, List.getElem?_eq_getElem hk0⟩
  refine At.skipC ?_
  refine At.thenN ?_
  refine At.seq ?_
  refine At.block ?_
  refine tR ?_
  refine tM rfl rfl ?_
  refine At.val (Val.indexRow (i := 1) k (by omega) Try.underlying66 Try.sizeOf32 rfl rfl rfl (by omega) (by rw [olds_length]; omega)) rfl rfl rfl ?_
  refine At.val (Val.loadRow (i := 1) Try.isAgg32 rfl rfl (by rw [List.getElem?_map, olds_at hk]; rfl)) rfl rfl rfl ?_
  refine tA rfl rfl ?_
  refine tA rfl rfl ?_
  refine tE ?_
  refine At.region ?_
  refine tM rfl rfl ?_
  refine tM rfl rfl ?_
  refine At.val (Val.mulI rfl rfl (by omega) (by omega)) rfl rfl rfl ?_
  refine At.val (Val.cutSl (8 * k) (8 * σ.ws.length) (8 * k) (8 * σ.ws.length - 8 * k) (c3 - 8 * k) Try.underlying36 Try.sizeOf5 rfl ⟨_, _, rfl, by omega, by omega⟩ rfl (by omega) hcap (by rw [if_neg (by omega)]; omega) rfl rfl) rfl rfl rfl ?_
  refine tM rfl rfl ?_
  refine At.call1 5 rfl (fun w hw hr => putW_r b2 (8 * k) (8 * σ.ws.length - 8 * k) (c3 - 8 * k) (8 * σ.ws.length) c3 (wbytes ((olds σ.ws).take k ++ List.replicate ((olds σ.ws).length - k) 0)) (wd.old) w (by omega) (by rw [wbytes_length, hl1]; omega) hr) Try.call23 rfl rfl ?_
  simp only [sc0, scS]
  refine At.nil ?_
  refine At.blkN ?_
  refine At.thenN ?_
  refine At.region ?_
  first | refine At.val (Val.addI rfl rfl (by omega) (by omega)) rfl rfl rfl ?_ | refine At.val (Val.bin rfl rfl rfl) rfl rfl rfl ?_
  refine tM rfl rfl ?_
  refine tE ?_
  exact At.again (k + 1) (show k + 1 ≤ _ by omega) (by omega) (Sub.cons rfl (Sub.cons rfl (Sub.cons rfl (Sub.cons rfl (Sub.cons rfl (Sub.cons (congrArg (fun z => some (Value.int IntKind.i64 z)) (by omega)) Sub.nil)))))) (by rw [put8_set _ (by omega), take_set_zero (olds_at hk)])
 ·skip
  try simp only [hasB, isSizeB, Bool.not_eq_true', Bool.not_eq_false', bne_iff_ne, ne_eq, bne_eq_false_iff_eq, beq_iff_eq, beq_eq_false_iff_ne, decide_eq_true_eq, decide_eq_false_iff_not, gt_iff_lt, ge_iff_le] at h5
  obtain rfl : k = σ.ws.length := by omega
  refine At.exitC ?_
  refine At.thenX ?_
  refine At.thenX ?_
  refine At.blkX ?_
  refine At.thenN ?_
  refine At.seq ?_
  refine tR ?_
  refine tM rfl rfl ?_
  refine At.callRKS (devL p γ σ) rfl (fun w hw hr => places_k p γ σ w hr) Try.call29 rfl rfl (fun v6 => ?_)
  refine At.sink5 ?_
  refine At.val (Val.lenRow (i := 5) Try.underlying23 rfl rfl) rfl rfl rfl ?_
  refine tM rfl rfl ?_
  refine tE ?_
  refine At.block ?_
  skip
  refine At.loop (σ := Nat) (fun K => K ≤ (dk σ.ws).length) (fun K => [(0, .pointer (some ⟨p, 0, none⟩)), (1, .func (.func fid) #[] caps.toArray), (5, (.slice (some ⟨b2, 0, none⟩) ((8 * σ.ws.length)) c3)), (31, v6), (32, .int .i64 ((dk σ.ws).length : Int)), (33, .int .i64 (K : Int))]) (fun K => [blk p tDv [γ.vo, .map (some γ.mb), .int .i64 (σ.steps : Int), .bool σ.armed, .int .i64 (σ.left : Int)], wrow tW γ.vo (olds σ.ws), mapR γ.mb (mk σ.ws γ.g), fam (dI σ.ws γ.g), factR (Dgood σ), rowR v6 3 1 (dkeys σ.ws).length ((dkeys σ.ws).map (Value.int .i64)), brow 5 (.slice (some ⟨b2, 0, none⟩) ((8 * σ.ws.length)) c3) (wbytes (pickK σ.ws pk K))]) (fun K => (dk σ.ws).length - K) 0 (Nat.zero_le _) (Sub.cons rfl (Sub.cons rfl (Sub.cons rfl (Sub.cons rfl (Sub.cons (congrArg (fun z => some (Value.int IntKind.i64 z)) (by rw [dkeys, List.length_map])) (Sub.cons rfl Sub.nil)))))) (by rw [List.take_of_length_le (by rw [olds_length]; exact Nat.le_refl _), olds_length, Nat.sub_self, List.replicate_zero, List.append_nil]; exact List.Perm.refl _) ?_
  intro K hs
  refine tR ?_
  refine At.val (Val.bin rfl rfl rfl) rfl rfl rfl ?_
  refine tE ?_
  refine At.seq ?_
  refine At.cond rfl (fun h7 => ?_) (fun h7 => ?_)
  ·skip
   try simp only [hasB, isSizeB, Bool.not_eq_true', Bool.not_eq_false', bne_iff_ne, ne_eq, bne_eq_false_iff_eq, beq_iff_eq, beq_eq_false_iff_ne, decide_eq_true_eq, decide_eq_false_iff_not, gt_iff_lt, ge_iff_le] at h7
   have hK : K < (dk σ.ws).length := by omega
   obtain ⟨k, hkK⟩ : ∃ k, (dk σ.ws)[K]? = some k := ⟨_, List.getElem?_eq_getElem hK⟩
   obtain ⟨wd, hk, hn⟩ := mem_dk.1 (List.mem_of_getElem? hkK)
   have hk0 := (List.getElem?_eq_some_iff.1 hk).1
   refine At.skipC ?_
   refine At.thenN ?_
   refine At.seq ?_
   refine At.block ?_
   refine tR ?_
   refine tM rfl rfl ?_
   refine At.val (Val.indexRow (i := 5) K (by omega) Try.underlying23 Try.sizeOf3 rfl rfl rfl (by omega) (by rw [dkeys, List.length_map]; omega)) rfl rfl rfl ?_
   refine At.val (Val.loadRow (i := 5) (u := .int .i64 (8 * (k : Int))) Try.isAgg3 rfl rfl (by rw [List.getElem?_map, dkeys, List.getElem?_map, hkK]; rfl)) rfl rfl rfl ?_
   refine tA rfl rfl ?_
   refine tA rfl rfl ?_
   refine tE ?_
   refine At.tail 13 rfl (by decide +kernel) ?_
   simp only [List.take_succ_cons, List.take_zero, List.drop_succ_cons, List.drop_zero]
   refine qM rfl rfl ?_
   refine qM rfl rfl ?_
   refine QAt.val (Val.cutSl (8 * k) (8 * σ.ws.length) (8 * k) (8 * σ.ws.length - 8 * k) (c3 - 8 * k) Try.underlying36 Try.sizeOf5 rfl ⟨_, _, rfl, by omega, by omega⟩ rfl (by omega) hcap (by rw [if_neg (by omega)]; omega) rfl rfl) rfl rfl rfl ?_
   refine qM rfl rfl ?_
   refine qM rfl rfl ?_
   refine qM rfl rfl ?_
   refine qM rfl rfl ?_
   refine QAt.val (Val.nilCheck rfl) rfl rfl rfl ?_
   refine QAt.val (Val.field 1 rfl fo_71_1 rfl) rfl rfl rfl ?_
   refine QAt.val (Val.load (i := 0) Try.isAgg69 rfl rfl rfl) rfl rfl rfl ?_
   refine qM rfl rfl ?_
   refine QAt.val (Val.look (i := 2) Try.underlying69 Try.underlying3 Try.zeroValue65 rfl rfl rfl) rfl rfl rfl ?_
   rw [mk_at, mkN_some hk hn]
   refine QAt.callVKS (devL p γ σ) (caps := caps) rfl rfl (fun w hw hr => hp w hw.mod hr K k wd hkK hk hn) hcall rfl rfl ?_
   refine QAt.fin ?_
   refine At.call1 6 rfl (fun w hw hr => putW_r b2 (8 * k) (8 * σ.ws.length - 8 * k) (c3 - 8 * k) (8 * σ.ws.length) c3 (wbytes (pickK σ.ws pk K)) (pk K k) w (by omega) (by rw [wbytes_length, pickK_length]; omega) hr) Try.call23 rfl rfl ?_
   simp only [sc0, scS]
   refine At.nil ?_
   refine At.blkN ?_
   refine At.thenN ?_
   refine At.region ?_
   first | refine At.val (Val.addI rfl rfl (by omega) (by omega)) rfl rfl rfl ?_ | refine At.val (Val.bin rfl rfl rfl) rfl rfl rfl ?_
   refine tM rfl rfl ?_
   refine tE ?_
   exact At.again (K + 1) (show K + 1 ≤ _ by omega) (by omega) (Sub.cons rfl (Sub.cons rfl (Sub.cons rfl (Sub.cons rfl (Sub.cons rfl (Sub.cons (congrArg (fun z => some (Value.int IntKind.i64 z)) (by omega)) Sub.nil)))))) (by rw [put8_set _ (by rw [pickK_length]; omega), pickK_succ hkK])
  ·skip
   try simp only [hasB, isSizeB, Bool.not_eq_true', Bool.not_eq_false', bne_iff_ne, ne_eq, bne_eq_false_iff_eq, beq_iff_eq, beq_eq_false_iff_ne, decide_eq_true_eq, decide_eq_false_iff_not, gt_iff_lt, ge_iff_le] at h7
   obtain rfl : K = (dk σ.ws).length := by omega
   refine At.exitC ?_
   refine At.thenX ?_
   refine At.thenX ?_
   refine At.blkX ?_
   refine At.thenN ?_
   refine tR ?_
   refine tM rfl rfl ?_
   refine tA rfl rfl ?_
   refine tE ?_
   refine At.retC ?_
   refine At.ret1 (.inl rfl) rfl rfl rfl (fun w hw => ?_)
   exact ⟨_, rfl, retRK (F := []) ((hw.drop ((List.Sublist.refl _).cons _ |>.cons_cons _ |>.cons_cons _ |>.cons_cons _ |>.cons_cons _ |>.cons_cons _)).perm (List.perm_middle (l₁ := [_, _, _, _, _]) (l₂ := [])))⟩


def viewWs (ws : List Wd) : List (BitVec 64) := ws.map nowW
theorem pickK_at {ws : List Wd} {pk : Nat → Nat → BitVec 64} {k : Nat} {w : Wd} (hk : ws[k]? = some w) : ∀ K, (∀ J, J < K → (dk ws)[J]? ≠ some k) → (pickK ws pk K)[k]? = some w.old
  | 0, _ => olds_at hk
  | K + 1, h => by
    cases hj : (dk ws)[K]? with
    | none => unfold pickK; rw [hj]; exact pickK_at hk K (fun J hJ => h J (by omega))
    | some j =>
      rw [pickK_succ hj]
      have hne : j ≠ k := fun e => h K (by omega) (e ▸ hj)
      rw [List.getElem?_set_ne hne]
      exact pickK_at hk K (fun J hJ => h J (by omega))
theorem dk_inj {ws : List Wd} {I J k : Nat} (h : (dk ws)[I]? = some k) (h' : (dk ws)[J]? = some k) : I = J := by
  have hr := dk_rising ws
  have h1 := List.getElem?_eq_some_iff.1 h
  have h2 := List.getElem?_eq_some_iff.1 h'
  rcases Nat.lt_trichotomy I J with hlt | hlt | hlt
  · have := List.pairwise_iff_getElem.1 hr I J h1.1 h2.1 hlt; rw [h1.2, h2.2] at this; omega
  · exact hlt
  · have := List.pairwise_iff_getElem.1 hr J I h2.1 h1.1 hlt; rw [h1.2, h2.2] at this; omega
theorem pickK_hit {ws : List Wd} {pk : Nat → Nat → BitVec 64} {K k : Nat} (hK : (dk ws)[K]? = some k) : ∀ n, K < n → n ≤ (dk ws).length → (pickK ws pk n)[k]? = some (pk K k)
  | 0, h, _ => by omega
  | n + 1, h, hn => by
    obtain ⟨j, hj⟩ : ∃ j, (dk ws)[n]? = some j := ⟨_, List.getElem?_eq_getElem (by omega)⟩
    rw [pickK_succ hj]
    by_cases e : n = K
    · subst e
      have : j = k := Option.some.inj (hj.symm.trans hK)
      subst this
      obtain ⟨w, hw, _⟩ := mem_dk.1 (List.mem_of_getElem? hj)
      rw [List.getElem?_set_self (by rw [pickK_length]; exact (List.getElem?_eq_some_iff.1 hw).1)]
    · have hne : j ≠ k := fun e2 => e (dk_inj (e2 ▸ hj) hK)
      rw [List.getElem?_set_ne hne]
      exact pickK_hit hK n (by omega) (by omega)
/-- Word by word: a word that isn't in doubt is its old one; the K-th in doubt is what is picked. -/
theorem picked_old {ws : List Wd} {pk : Nat → Nat → BitVec 64} {k : Nat} {w : Wd} (hk : ws[k]? = some w) (hn : w.news = []) : (picked ws pk)[k]? = some w.old :=
  pickK_at hk _ fun J _ h => by
    obtain ⟨u, hu, hun⟩ := mem_dk.1 (List.mem_of_getElem? h)
    rw [hk] at hu; cases hu; exact hun hn
theorem picked_new {ws : List Wd} {pk : Nat → Nat → BitVec 64} {K k : Nat} (hK : (dk ws)[K]? = some k) : (picked ws pk)[k]? = some (pk K k) := pickK_hit hK _ (List.getElem?_eq_some_iff.1 hK).1 (Nat.le_refl _)
theorem picked_length (ws : List Wd) (pk : Nat → Nat → BitVec 64) : (picked ws pk).length = ws.length := pickK_length ws pk _
theorem dk_of {ws : List Wd} {k : Nat} {w : Wd} (hk : ws[k]? = some w) (hn : w.news ≠ []) : ∃ K : Nat, (dk ws)[K]? = some k := List.getElem?_of_mem (mem_dk.2 ⟨w, hk, hn⟩)
theorem picked_view (ws : List Wd) : picked ws (pkV ws) = viewWs ws := by
  apply List.ext_getElem?
  intro k
  unfold viewWs
  rw [List.getElem?_map]
  cases hk : ws[k]? with
  | none => rw [List.getElem?_eq_none (by rw [picked_length]; exact List.getElem?_eq_none_iff.1 hk)]; rfl
  | some w =>
    by_cases hn : w.news = []
    · rw [picked_old hk hn]; show _ = some (nowW w); rw [now_old hn]
    · obtain ⟨K, hK⟩ := dk_of hk hn
      rw [picked_new hK, pkV_at hk]; rfl

theorem view_k (p : Nat) (γ : Gh) (σ : Ds) (w : World) (hd : (Dev p γ σ).holds w) :
    RowK Try.prog 10 [.pointer (some ⟨p, 0, none⟩)] (Dev p γ σ) 5 1 (wbytes (viewWs σ.ws)).length ((wbytes (viewWs σ.ws)).map bv) w := by
 refine enterVc hd Try.func10 rfl Try.ntmps10 rfl ?_
 have hgd := Dev.good hd
 simp only [envOf]
 refine tR ?_
 refine tA rfl rfl ?_
 refine tE ?_
 refine tR ?_
 refine tM rfl rfl ?_
 refine At.callRK 0 rfl (fun w hw hr => bytes_k p γ σ 27 [] (pkV σ.ws) w Try.call27 (fun w' _ hd' K k wd hK hk hn => by rw [pkV_at hk]; exact viewCl_k p γ σ k wd _ _ w' hk hn hd') hr) Try.call25 rfl rfl (fun v1 => ?_)
 refine tA rfl rfl ?_
 refine tE ?_
 refine At.retC ?_
 refine At.ret1 (.inl rfl) rfl rfl rfl (fun w hw => ?_)
 rw [picked_view] at hw
 exact ⟨_, rfl, hw⟩


theorem rep_none {w0 w : World} {S : Nat → Prop} (h : Mod S w0 w) : Rep w0 S [] w := ⟨by simp, by simp, by simp, h⟩
theorem off_boxes {w0 w w' : World} {S : Nat → Prop} {p : Nat} {γ : Gh} {σ : Ds} {a b T U : Nat} {x y : Value} (hw : Rep w0 S [blk a T [x], blk b U [y], Dev p γ σ] w) (hm : Mod (feet [Dev p γ σ]) w w') :
    w'.cell? ⟨a, 0, none⟩ = some x ∧ w'.cell? ⟨b, 0, none⟩ = some y ∧ ¬ feet [Dev p γ σ] a ∧ ¬ feet [Dev p γ σ] b := by
  have hs := List.pairwise_cons.1 hw.sep
  have hs2 := List.pairwise_cons.1 hs.2
  have ha : ¬ feet [Dev p γ σ] a := fun ⟨r, hr, hb⟩ => by rw [List.mem_singleton.1 hr] at hb; exact hs.1 (Dev p γ σ) (by simp) a rfl hb
  have hb : ¬ feet [Dev p γ σ] b := fun ⟨r, hr, hb⟩ => by rw [List.mem_singleton.1 hr] at hb; exact hs2.1 (Dev p γ σ) (by simp) b rfl hb
  have h1 : w.cell? ⟨a, 0, none⟩ = some x := (hw.blk (i := 0) rfl).cell 0
  have h2 : w.cell? ⟨b, 0, none⟩ = some y := (hw.blk (i := 1) rfl).cell 0
  exact ⟨(rep_none hm).oldCell h1 ha, (rep_none hm).oldCell h2 hb, ha, hb⟩

theorem crash_k (p : Nat) (γ : Gh) (σ : Ds) (vc : Value) (cs : List Int) (w : World) (hv : RdI w vc cs) (ho : Off vc (cs.map (Value.int .i64)) (feet [Dev p γ σ])) (hd : (Dev p γ σ).holds w) :
    RowK Try.prog 9 [.pointer (some ⟨p, 0, none⟩), vc] (Dev p γ σ) 5 1 (wbytes (picked σ.ws (pkC σ.ws cs))).length ((wbytes (picked σ.ws (pkC σ.ws cs))).map bv) w := by
 refine enterVc hd Try.func9 rfl Try.ntmps9 rfl ?_
 have hgd := Dev.good hd
 simp only [envOf]
 refine tR ?_
 refine At.box rfl rfl rfl (fun b1 => ?_)
 have hvone := rd_one hv
 refine At.box rfl hvone rfl (fun b9 => ?_)
 refine tA rfl rfl ?_
 refine tE ?_
 refine tR ?_
 refine At.val (Val.load (i := 1) Try.isAgg25 rfl rfl rfl) rfl rfl rfl ?_
 refine At.val (Val.makeFunc2 rfl rfl) rfl rfl rfl ?_
 refine At.callRK 2 rfl (fun w hw hr => bytes_k p γ σ 26 [.pointer (some ⟨b9, 0, none⟩), .pointer (some ⟨b1, 0, none⟩)] (pkC σ.ws cs) w Try.call26 (fun w' hm hd' K k wd hK hk hn => by
   obtain ⟨h1, h2, h3, h4⟩ := off_boxes hw hm
   have hKl := (List.getElem?_eq_some_iff.1 hK).1
   have hdl : (dk σ.ws).length ≤ σ.ws.length := Nat.le_trans (List.length_filter_le _ _) (by rw [List.length_range]; exact Nat.le_refl _)
   rw [pkC_at hk]
   exact crashCl_k p γ σ k K b9 b1 wd vc cs w' hk hn (by have := hgd.len; omega) h1 h2 h3 h4 ((hv.keep hw ho).keep (rep_none hm) ho) ho hd') hr) Try.call25 rfl rfl (fun v2 => ?_)
 refine tA rfl rfl ?_
 refine tE ?_
 refine At.retC ?_
 refine At.ret1 (.inl rfl) rfl rfl rfl (fun w hw => ?_)
 exact ⟨_, rfl, hw.drop (List.Sublist.refl _ |>.cons _ |>.cons _ |>.cons_cons _)⟩

end Go.Proofs.Ytgighokkflchmaa
