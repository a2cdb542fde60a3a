/- Are two devices alike? -/
import Derived.Test.YtgighokkflchmaaQ4
import Derived.Test.YtgighokkflchmaaP10
set_option linter.unusedVariables false
set_option linter.unusedSimpArgs false
namespace Go.Proofs.Ytgighokkflchmaa
open Go Go.Wk

theorem dts_news {ws : List Wd} {k : Nat} {x : Dt} (h : (dts ws)[k]? = some x) : ∃ w ∈ ws, x.2.2 = w.news := by
  unfold dts at h
  rw [List.getElem?_map] at h
  cases hk : (dk ws)[k]? with
  | none => rw [hk] at h; cases h
  | some j =>
    rw [hk] at h
    obtain rfl := Option.some.inj h
    obtain ⟨w, hw, _⟩ := mem_dk.1 (List.mem_of_getElem? hk)
    rw [dtsAt_some hw]
    exact ⟨w, List.mem_of_getElem? hw, rfl⟩
theorem fst_at {Q : List Dq} {D : List Dt} {k : Nat} {x : Dq} (h : Q.map Prod.fst = D) (hx : Q[k]? = some x) : D[k]? = some x.1 := by
  subst h; rw [List.getElem?_map, hx]; rfl

theorem alike_k (p q : Nat) (γ δ : Gh) (σ τ : Ds) (w : World) (hws : σ.ws = τ.ws) (hd : (star [Dev p γ σ, Dev q δ τ]).holds w) :
    Upd Try.prog 16 [.pointer (some ⟨p, 0, none⟩), .pointer (some ⟨q, 0, none⟩)] (star [Dev p γ σ, Dev q δ τ]) (.bool true) (star [Dev p γ σ, Dev q δ τ]) w := by
 refine enter (feet [star [Dev p γ σ, Dev q δ τ]]) [Dev p γ σ, Dev q δ τ] Try.func16 rfl Try.ntmps16 rfl (Rep.of_star (r := star [Dev p γ σ, Dev q δ τ]) hd) ?_
 have hgd := Dev.good (hd.2 (Dev p γ σ) (by simp))
 have hln := hgd.len
 have hlq : τ.ws.length = σ.ws.length := by rw [hws]
 simp only [envOf]
 refine tR ?_
 refine tA rfl rfl ?_
 refine tE ?_
 refine At.seq ?_
 refine tR ?_
 refine tM rfl rfl ?_
 refine At.callRK 0 rfl (fun w hw hr => view_k _ _ _ w hr) Try.call10 rfl rfl (fun v1 => ?_)
 refine tM rfl rfl ?_
 refine At.callRK 2 rfl (fun w hw hr => view_k _ _ _ w hr) Try.call10 rfl rfl (fun v2 => ?_)
 refine At.callP (fun w hw => sameBytes_p _ _ _ _ w (row_rd (hw.row (i := 1) rfl) (by decide)) (row_rd (hw.row (i := 0) rfl) (by decide)) (by rw [wbytes_length, viewWs, List.length_map]; omega) (by rw [wbytes_length, viewWs, List.length_map]; omega)) Try.call32 rfl rfl ?_
 rw [hws, decide_eq_true rfl]
 ·skip
  refine At.val (Val.not rfl) rfl rfl rfl ?_
  refine tE ?_
  refine At.condF rfl ?_
  refine At.skipC ?_
  refine At.thenN ?_
  refine tR ?_
  refine tM rfl rfl ?_
  refine At.callDB 2 rfl (fun w hw hr => doubts_k _ _ _ w hr) Try.call13 rfl rfl (fun v3 Q4 hQ5 => ?_)
  refine tA rfl rfl ?_
  refine tE ?_
  refine tR ?_
  refine tM rfl rfl ?_
  refine At.callDB 4 rfl (fun w hw hr => doubts_k _ _ _ w hr) Try.call13 rfl rfl (fun v6 Q7 hQ8 => ?_)
  refine tA rfl rfl ?_
  refine At.nil ?_
  have hQQ : Q4.map Prod.fst = Q7.map Prod.fst := by rw [hQ5, hQ8, hws]
  have hQl : Q4.length = Q7.length := by have := congrArg List.length hQQ; rwa [List.length_map, List.length_map] at this
  have hQb : Q4.length ≤ 65536 := by have h1 := congrArg List.length hQ5; rw [List.length_map, dts_length] at h1; have h2 := dk_le σ.ws; omega
  refine At.thenN ?_
  refine At.seq ?_
  refine tR ?_
  refine tM rfl rfl ?_
  refine At.val (Val.lenDb (i := 1) rfl Try.underlying44 rfl) rfl rfl rfl ?_
  refine tM rfl rfl ?_
  refine At.val (Val.lenDb (i := 0) rfl Try.underlying44 rfl) rfl rfl rfl ?_
  refine At.val (Val.bin rfl rfl rfl) rfl rfl rfl ?_
  refine tE ?_
  refine At.cond rfl (fun h9 => ?_) (fun h9 => ?_)
  ·skip
   try simp only [hasB, isSizeB, Bool.not_eq_true', Bool.not_eq_false', bne_iff_ne, ne_eq, bne_eq_false_iff_eq, beq_iff_eq, beq_eq_false_iff_ne, decide_eq_true_eq, decide_eq_false_iff_not, gt_iff_lt, ge_iff_le] at h9
   omega
  ·skip
   try simp only [hasB, isSizeB, Bool.not_eq_true', Bool.not_eq_false', bne_iff_ne, ne_eq, bne_eq_false_iff_eq, beq_iff_eq, beq_eq_false_iff_ne, decide_eq_true_eq, decide_eq_false_iff_not, gt_iff_lt, ge_iff_le] at h9
   refine At.skipC ?_
   refine At.thenN ?_
   refine At.seq ?_
   refine tR ?_
   refine tA rfl rfl ?_
   refine tE ?_
   refine At.block ?_
   skip
   skip
   refine At.loop (σ := Nat) (fun k => k ≤ Q4.length) (fun k => [(0, .pointer (some ⟨p, 0, none⟩)), (1, .pointer (some ⟨q, 0, none⟩)), (5, v3), (6, v6), (7, .int .i64 (k : Int))]) (fun k => [dbtR v6 Q7, dbtR v3 Q4, rowR v2 5 1 ((wbytes (viewWs (τ).ws)).length) ((wbytes (viewWs (τ).ws)).map bv), rowR v1 5 1 ((wbytes (viewWs (σ).ws)).length) ((wbytes (viewWs (σ).ws)).map bv), Dev p γ (σ), Dev q δ (τ)]) (fun k => Q4.length - k) 0 (Nat.zero_le _) (Sub.cons rfl (Sub.cons rfl (Sub.cons rfl (Sub.cons rfl (Sub.cons rfl Sub.nil))))) (by rw [hws]) ?_
   intro k hs
   refine At.seq ?_
   refine tR ?_
   refine tM rfl rfl ?_
   refine tM rfl rfl ?_
   refine At.val (Val.lenDb (i := 1) rfl Try.underlying44 rfl) rfl rfl rfl ?_
   refine At.val (Val.bin rfl rfl rfl) rfl rfl rfl ?_
   refine tE ?_
   refine At.cond rfl (fun h10 => ?_) (fun h10 => ?_)
   ·skip
    try simp only [hasB, isSizeB, Bool.not_eq_true', Bool.not_eq_false', bne_iff_ne, ne_eq, bne_eq_false_iff_eq, beq_iff_eq, beq_eq_false_iff_ne, decide_eq_true_eq, decide_eq_false_iff_not, gt_iff_lt, ge_iff_le] at h10
    have hkl : k < Q4.length := by omega
    obtain ⟨⟨⟨xa, xo, xn⟩, xs⟩, hx⟩ : ∃ x, Q4[k]? = some x := ⟨_, List.getElem?_eq_getElem hkl⟩
    obtain ⟨⟨yy, ys⟩, hy⟩ : ∃ y, Q7[k]? = some y := ⟨_, List.getElem?_eq_getElem (by omega)⟩
    obtain rfl : yy = (xa, xo, xn) := by have h1 := fst_at hQQ hx; have h2 := fst_at rfl hy; exact Option.some.inj (h2.symm.trans h1)
    obtain ⟨wd, hwm, hwn⟩ := dts_news (fst_at hQ5 hx)
    have hxl : xn.length ≤ 1099511627776 := by have h1 := (hgd.word wd hwm).2; have h2 := hgd.steps; have h3 : xn.length = wd.news.length := congrArg List.length hwn; omega
    refine At.skipC ?_
    refine At.thenN ?_
    refine At.seq ?_
    refine At.block ?_
    refine At.seq ?_
    refine At.quiet rfl (by decide +kernel) ?_
    refine qM rfl rfl ?_
    refine qM rfl rfl ?_
    refine QAt.val (Val.indexDb (i := 1) (k * 3) (by omega) Try.underlying44 Try.sizeOf74 rfl rfl rfl (by omega) (by omega)) rfl rfl rfl ?_
    refine QAt.val (Val.field (k * 3 + 0) rfl fo_74_0 rfl) rfl rfl rfl ?_
    refine QAt.val (Val.loadDb (i := 1) 0 Try.isAgg3 rfl rfl rfl hx rfl) rfl rfl rfl ?_
    refine qM rfl rfl ?_
    refine qM rfl rfl ?_
    refine QAt.val (Val.indexDb (i := 0) (k * 3) (by omega) Try.underlying44 Try.sizeOf74 rfl rfl rfl (by omega) (by omega)) rfl rfl rfl ?_
    refine QAt.val (Val.field (k * 3 + 0) rfl fo_74_0 rfl) rfl rfl rfl ?_
    refine QAt.val (Val.loadDb (i := 0) 0 Try.isAgg3 rfl rfl rfl hy rfl) rfl rfl rfl ?_
    refine QAt.val (Val.bin rfl rfl rfl) rfl rfl rfl ?_
    rw [bne_self_eq_false]
    refine qM rfl rfl ?_
    refine QAt.yes rfl rfl ?_
    refine qM rfl rfl ?_
    refine QAt.yes rfl rfl ?_
    refine qM rfl rfl ?_
    refine QAt.yes rfl rfl ?_
    refine QAt.val (Val.indexDb (i := 1) (k * 3) (by omega) Try.underlying44 Try.sizeOf74 rfl rfl rfl (by omega) (by omega)) rfl rfl rfl ?_
    refine QAt.yes rfl rfl ?_
    refine QAt.val (Val.field (k * 3 + 1) rfl fo_74_1 rfl) rfl rfl rfl ?_
    refine QAt.yes rfl rfl ?_
    refine QAt.val (Val.loadDb (i := 1) 1 Try.isAgg32 rfl rfl rfl hx rfl) rfl rfl rfl ?_
    refine QAt.yes rfl rfl ?_
    refine qM rfl rfl ?_
    refine QAt.yes rfl rfl ?_
    refine qM rfl rfl ?_
    refine QAt.yes rfl rfl ?_
    refine QAt.val (Val.indexDb (i := 0) (k * 3) (by omega) Try.underlying44 Try.sizeOf74 rfl rfl rfl (by omega) (by omega)) rfl rfl rfl ?_
    refine QAt.yes rfl rfl ?_
    refine QAt.val (Val.field (k * 3 + 1) rfl fo_74_1 rfl) rfl rfl rfl ?_
    refine QAt.yes rfl rfl ?_
    refine QAt.val (Val.loadDb (i := 0) 1 Try.isAgg32 rfl rfl rfl hy rfl) rfl rfl rfl ?_
    refine QAt.yes rfl rfl ?_
    refine QAt.val (Val.bin rfl rfl rfl) rfl rfl rfl ?_
    rw [bne_self_eq_false]
    refine QAt.val (Val.pickF rfl rfl) rfl rfl rfl ?_
    refine qM rfl rfl ?_
    refine QAt.yes rfl rfl ?_
    refine qM rfl rfl ?_
    refine QAt.yes rfl rfl ?_
    refine qM rfl rfl ?_
    refine QAt.yes rfl rfl ?_
    refine QAt.val (Val.indexDb (i := 1) (k * 3) (by omega) Try.underlying44 Try.sizeOf74 rfl rfl rfl (by omega) (by omega)) rfl rfl rfl ?_
    refine QAt.yes rfl rfl ?_
    refine QAt.val (Val.field (k * 3 + 2) rfl fo_74_2 rfl) rfl rfl rfl ?_
    refine QAt.yes rfl rfl ?_
    refine QAt.val (Val.loadDb (i := 1) 2 Try.isAgg66 rfl rfl rfl hx rfl) rfl rfl rfl ?_
    refine QAt.yes rfl rfl ?_
    refine qM rfl rfl ?_
    refine QAt.yes rfl rfl ?_
    refine qM rfl rfl ?_
    refine QAt.yes rfl rfl ?_
    refine QAt.val (Val.indexDb (i := 0) (k * 3) (by omega) Try.underlying44 Try.sizeOf74 rfl rfl rfl (by omega) (by omega)) rfl rfl rfl ?_
    refine QAt.yes rfl rfl ?_
    refine QAt.val (Val.field (k * 3 + 2) rfl fo_74_2 rfl) rfl rfl rfl ?_
    refine QAt.yes rfl rfl ?_
    refine QAt.val (Val.loadDb (i := 0) 2 Try.isAgg66 rfl rfl rfl hy rfl) rfl rfl rfl ?_
    refine QAt.yes rfl rfl ?_
    refine QAt.callP (fun w hw => sameWords_p _ _ xn xn w (dbt_news (hw.all _ (List.mem_of_getElem? (i := 1) rfl)) hx) (dbt_news (hw.all _ (List.mem_of_getElem? (i := 0) rfl)) hy) (by omega) (by omega)) Try.call33 rfl rfl ?_
    rw [decide_eq_true rfl]
    ·skip
     refine QAt.yes rfl rfl ?_
     refine QAt.val (Val.not rfl) rfl rfl rfl ?_
     refine QAt.val (Val.pickF rfl rfl) rfl rfl rfl ?_
     refine QAt.fin ?_
     refine At.thenN ?_
     refine At.condF rfl ?_
     refine At.skipC ?_
     refine At.blkN ?_
     refine At.thenN ?_
     refine At.region ?_
     refine tM rfl rfl ?_
     first | refine At.val (Val.addI rfl rfl (by omega) (by omega)) rfl rfl rfl ?_ | refine At.val (Val.bin rfl rfl rfl) rfl rfl rfl ?_
     refine tA rfl rfl ?_
     refine tE ?_
     exact At.again (k + 1) (show k + 1 ≤ _ by omega) (by omega) (Sub.cons rfl (Sub.cons rfl (Sub.cons rfl (Sub.cons rfl (Sub.cons (congrArg (fun z => some (Value.int IntKind.i64 z)) (by omega)) Sub.nil))))) (List.Perm.refl _)
   ·skip
    try simp only [hasB, isSizeB, Bool.not_eq_true', Bool.not_eq_false', bne_iff_ne, ne_eq, bne_eq_false_iff_eq, beq_iff_eq, beq_eq_false_iff_ne, decide_eq_true_eq, decide_eq_false_iff_not, gt_iff_lt, ge_iff_le] at h10
    refine At.exitC ?_
    refine At.thenX ?_
    refine At.thenX ?_
    refine At.blkX ?_
    refine At.thenN ?_
    refine tR ?_
    refine tM rfl rfl ?_
    refine At.callRK 4 rfl (fun w hw hr => crash_k _ _ _ (.slice none 0 0) [] w (Rd.nil w 1) (fun h => absurd rfl h) hr) Try.call9 rfl rfl (fun v11 => ?_)
    refine tM rfl rfl ?_
    refine At.callRK 6 rfl (fun w hw hr => crash_k _ _ _ (.slice none 0 0) [] w (Rd.nil w 1) (fun h => absurd rfl h) hr) Try.call9 rfl rfl (fun v12 => ?_)
    refine At.callP (fun w hw => sameBytes_p _ _ _ _ w (row_rd (hw.row (i := 1) rfl) (by decide)) (row_rd (hw.row (i := 0) rfl) (by decide)) (by rw [wbytes_length, picked_length]; omega) (by rw [wbytes_length, picked_length]; omega)) Try.call32 rfl rfl ?_
    rw [hws, decide_eq_true rfl]
    ·skip
     refine tA rfl rfl ?_
     refine tE ?_
     refine At.retC ?_
     refine At.ret1 (.inl rfl) rfl rfl rfl (fun w hw => ?_)
     exact ⟨rfl, Rep.shutS (F := []) (hw.drop (List.Sublist.refl _ |>.cons _ |>.cons _ |>.cons _ |>.cons _ |>.cons _ |>.cons _))⟩

end Go.Proofs.Ytgighokkflchmaa
