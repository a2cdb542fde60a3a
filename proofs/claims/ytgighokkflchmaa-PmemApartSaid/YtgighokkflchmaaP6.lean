/- A fence. -/
import Derived.Test.YtgighokkflchmaaP5
set_option linter.unusedVariables false
set_option linter.unusedSimpArgs false
namespace Go.Proofs.Ytgighokkflchmaa
open Go Go.Wk
theorem fence_d (p : Nat) (γ : Gh) (σ : Ds) (w : World) (hs : σ.steps + 1 ≤ 1099511627776) (hno : deadB σ = false) (hd : (Dev p γ σ).holds w) :
    DevU Try.prog 21 [.pointer (some ⟨p, 0, none⟩)] p γ σ (.int .i64 0) (fenceD (stepD σ)) w := by
 refine enterVc hd Try.func21 rfl Try.ntmps21 rfl ?_
 have hgd := Dev.good hd
 have hln := hgd.len
 have hg1 := dgood_step hgd hs
 have hstp := hg1.steps
 simp only [envOf]
 refine tR ?_
 refine tA rfl rfl ?_
 refine tE ?_
 refine At.seq ?_
 refine tR ?_
 refine tM rfl rfl ?_
 refine At.callD 0 rfl (fun w hw hr => step_d _ _ _ w hs hno hr) Try.call39 rfl rfl (fun y1 => ?_)
 simp only [sc0, scS]
 refine tA rfl rfl ?_
 refine tE ?_
 refine tR ?_
 refine tM rfl rfl ?_
 refine At.val (Val.bin rfl rfl rfl) rfl rfl rfl ?_
 refine tE ?_
 refine At.condF rfl ?_
 refine At.skipC ?_
 refine At.thenN ?_
 refine At.seq ?_
 refine At.seq ?_
 refine At.openS 0 rfl ?_
 simp only [devL, List.cons_append, List.nil_append, ec0, ecS]
 refine At.region ?_
 refine tM rfl rfl ?_
 refine At.val (Val.nilCheck rfl) rfl rfl rfl ?_
 refine At.val (Val.field 1 rfl fo_71_1 rfl) rfl rfl rfl ?_
 refine At.val (Val.load (i := 0) Try.isAgg69 rfl rfl rfl) rfl rfl rfl ?_
 refine At.range (i := 2) Try.underlying69 rfl rfl rfl (fun r2 cnt3 => ?_)
 simp only [sc0, scS]
 refine tE ?_
 refine At.block ?_
 skip
 refine At.loop (σ := (List Wd × (Nat → Nat × Value)) × (Int → Bool) × Option (Int × Value) × Nat) (fun s => FInv (stepD σ).ws s.1.1 s.2.1) (fun s => [(0, .pointer (some ⟨p, 0, none⟩)), (15, .pointer (some ⟨r2, 0, none⟩))]) (fun s => [blk p tDv [y1.vo, .map (some y1.mb), .int .i64 ((stepD σ).steps : Int), .bool (stepD σ).armed, .int .i64 ((stepD σ).left : Int)], wrow tW y1.vo (olds s.1.1), iterR y1.mb r2 (mk s.1.1 s.1.2) s.2.1 s.2.2.1 s.2.2.2, fam (dI s.1.1 s.1.2), factR (Dgood (stepD σ))]) (fun s => s.2.2.2) (((stepD σ).ws, y1.g), (fun k => (mk (stepD σ).ws y1.g k).isSome), none, cnt3) (finv_start hg1 _) (Sub.cons rfl (Sub.cons rfl Sub.nil)) (List.Perm.refl _) ?_
 intro s hs
 obtain ⟨⟨ws, g⟩, left, cur, cnt⟩ := s
 dsimp only at hs ⊢
 refine tR ?_
 refine At.next (i := 2) rfl rfl rfl (fun hl => ?_) (fun x v cn hl hf hcn => ?_)
 skip
 ·skip
  refine At.val (Val.extract rfl rfl) rfl rfl rfl ?_
  refine tE ?_
  refine At.seq ?_
  refine At.condF rfl ?_
  refine At.exitC ?_
  refine At.thenX ?_
  refine At.thenX ?_
  refine At.blkX ?_
  refine At.thenN ?_
  refine At.seq ?_
  refine At.iterEnd 2 rfl ?_
  simp only [sc0, scS]
  refine At.region ?_
  refine tA rfl rfl ?_
  refine tE ?_
  refine At.retC ?_
  refine At.ret1 (.inl rfl) rfl rfl rfl (fun w hw => ?_)
  exact ⟨⟨y1.vo, y1.mb, g⟩, rfl, toDev (F := []) (fence_good hg1) (hw.drop (show List.Sublist [_, _, _, _] _ from (List.Sublist.refl _ |>.cons _ |>.cons_cons _ |>.cons_cons _ |>.cons_cons _ |>.cons_cons _))) rfl (by rw [finv_end hs hl]; rfl) (by rw [finv_end hs hl]; rfl) (by rw [finv_end hs hl]; rfl)⟩
 ·skip
  simp only [sc0, scS]
  obtain ⟨k, wd, rfl, hk, hn, rfl⟩ := mk_inv hf
  have hwk := finv_word hs hl hk
  have hwd := hg1.word wd (List.mem_of_getElem? hwk)
  have hkl := (List.getElem?_eq_some_iff.1 hk).1
  have hlen := hs.1
  have hsl : (stepD σ).ws.length = σ.ws.length := rfl
  refine At.val (Val.extract rfl rfl) rfl rfl rfl ?_
  refine tE ?_
  refine At.seq ?_
  refine At.condT rfl ?_
  refine At.skipC ?_
  refine At.thenN ?_
  refine At.block ?_
  refine tR ?_
  refine At.val (Val.entry (i := 2) rfl rfl) rfl rfl rfl ?_
  refine At.val (Val.extract rfl rfl) rfl rfl rfl ?_
  refine At.val (Val.extract rfl rfl) rfl rfl rfl ?_
  refine tA rfl rfl ?_
  refine tA rfl rfl ?_
  refine tE ?_
  refine At.seq ?_
  refine tR ?_
  refine tM rfl rfl ?_
  refine At.val (Val.nilCheck rfl) rfl rfl rfl ?_
  refine At.val (Val.field 1 rfl fo_68_1 rfl) rfl rfl rfl ?_
  refine At.val (Val.loadDbt (i := 3) (q := 1) Try.isAgg3 rfl rfl hk hn rfl) rfl rfl rfl ?_
  refine At.val (Val.bin rfl rfl rfl) rfl rfl rfl ?_
  refine tE ?_
  refine At.cond rfl (fun h4 => ?_) (fun h4 => ?_)
  ·skip
   try simp only [hasB, isSizeB, Bool.not_eq_true', Bool.not_eq_false', bne_iff_ne, ne_eq, bne_eq_false_iff_eq, beq_iff_eq, beq_eq_false_iff_ne, decide_eq_true_eq, decide_eq_false_iff_not, gt_iff_lt, ge_iff_le] at h4
   have fz : ws.set k (fenceW wd) = ws := by rw [fenceW_calm (by omega)]; exact set_get hk
   refine At.exitC ?_
   refine At.thenX ?_
   refine At.blkX ?_
   refine At.thenN ?_
   exact At.again ((ws.set k (fenceW wd), g), (fun q => left q && q != 8 * (k : Int)), some (8 * (k : Int), .pointer (some ⟨(g k).1, 0, none⟩)), cn) (finv_step hs hl hk (by simp) (fun q hq => by simp [hq])) (show cn < cnt by omega) (Sub.cons rfl (Sub.cons rfl Sub.nil)) (by rw [fz])
  ·skip
   try simp only [hasB, isSizeB, Bool.not_eq_true', Bool.not_eq_false', bne_iff_ne, ne_eq, bne_eq_false_iff_eq, beq_iff_eq, beq_eq_false_iff_ne, decide_eq_true_eq, decide_eq_false_iff_not, gt_iff_lt, ge_iff_le] at h4
   refine At.skipC ?_
   refine At.thenN ?_
   refine At.seq ?_
   have fz : fenceW wd = ⟨(wd.news[wd.mark - 1]?).getD wd.old, wd.news.drop wd.mark, 0⟩ := if_neg (by omega)
   obtain ⟨z, hz⟩ : ∃ z, wd.news[wd.mark - 1]? = some z := ⟨_, List.getElem?_eq_getElem (by omega)⟩
   rw [hz, Option.getD_some] at fz
   refine At.dbtSome 3 rfl hk hn (fun b o c hv => ?_)
   refine At.dbtCap 3 rfl hk hn hv (fun hcap => ?_)
   refine At.tail 18 rfl (by decide +kernel) ?_
   simp only [List.take_succ_cons, List.take_zero, List.drop_succ_cons, List.drop_zero]
   refine qM rfl rfl ?_
   refine QAt.val (Val.nilCheck rfl) rfl rfl rfl ?_
   refine QAt.val (Val.field 0 rfl fo_71_0 rfl) rfl rfl rfl ?_
   refine QAt.val (Val.load (i := 0) Try.isAgg66 rfl rfl rfl) rfl rfl rfl ?_
   refine qM rfl rfl ?_
   refine QAt.val (Val.quoI rfl rfl (by omega) (by omega) (by decide)) rfl rfl rfl ?_
   rw [show 8 * (k : Int) / 8 = (k : Int) from by omega]
   refine qM rfl rfl ?_
   refine QAt.val (Val.nilCheck rfl) rfl rfl rfl ?_
   refine QAt.val (Val.field 0 rfl fo_68_0 rfl) rfl rfl rfl ?_
   refine QAt.val (Val.loadDbt (i := 3) (q := 0) Try.isAgg66 rfl rfl hk hn rfl) rfl rfl rfl ?_
   refine qM rfl rfl ?_
   refine QAt.val (Val.nilCheck rfl) rfl rfl rfl ?_
   refine QAt.val (Val.field 1 rfl fo_68_1 rfl) rfl rfl rfl ?_
   refine QAt.val (Val.loadDbt (i := 3) (q := 1) Try.isAgg3 rfl rfl hk hn rfl) rfl rfl rfl ?_
   refine QAt.val (Val.subI rfl rfl (by omega) (by omega)) rfl rfl rfl ?_
   rw [hv]
   refine QAt.val (Val.indexSl (o + (wd.mark - 1)) (by omega) Try.underlying66 Try.sizeOf32 rfl rfl (by omega) (by omega)) rfl rfl rfl ?_
   refine QAt.val (Val.loadNews (i := 3) Try.isAgg32 rfl rfl hk hn hv rfl hz) rfl rfl rfl ?_
   refine QAt.val (Val.indexRow (i := 1) k (by omega) Try.underlying66 Try.sizeOf32 rfl rfl rfl (by omega) (by rw [olds_length]; omega)) rfl rfl rfl ?_
   refine QAt.fin ?_
   refine At.storeRow (i := 1) Try.sizeOf32 rfl rfl rfl rfl (by rw [List.length_map, olds_length]; exact hkl) ?_
   simp only [sc0, scS]
   rw [← List.map_set, show (olds ws).set k z = olds (ws.set k (fenceW wd)) from by rw [olds_set, fz], show (olds ws).length = (olds (ws.set k (fenceW wd))).length from by rw [olds_length, olds_length, List.length_set]]
   refine tE ?_
   refine At.seq ?_
   refine At.focusD 3 rfl hk hn ?_
   simp only [ec0, ecS]
   rw [hv]
   refine At.tail 12 rfl (by decide +kernel) ?_
   simp only [List.take_succ_cons, List.take_zero, List.drop_succ_cons, List.drop_zero]
   refine qM rfl rfl ?_
   refine qM rfl rfl ?_
   refine QAt.val (Val.nilCheck rfl) rfl rfl rfl ?_
   refine QAt.val (Val.field 0 rfl fo_68_0 rfl) rfl rfl rfl ?_
   refine QAt.val (Val.load (i := 0) Try.isAgg66 rfl rfl rfl) rfl rfl rfl ?_
   refine qM rfl rfl ?_
   refine QAt.val (Val.nilCheck rfl) rfl rfl rfl ?_
   refine QAt.val (Val.field 1 rfl fo_68_1 rfl) rfl rfl rfl ?_
   refine QAt.val (Val.load (i := 0) Try.isAgg3 rfl rfl rfl) rfl rfl rfl ?_
   refine QAt.val (Val.cutSl wd.mark wd.news.length _ _ _ Try.underlying66 Try.sizeOf32 rfl ⟨_, _, rfl, by omega, by omega⟩ rfl (by omega) hcap rfl rfl rfl) rfl rfl rfl ?_
   refine QAt.val (Val.nilCheck rfl) rfl rfl rfl ?_
   refine QAt.val (Val.field 0 rfl fo_68_0 rfl) rfl rfl rfl ?_
   refine QAt.fin ?_
   refine At.store (i := 0) Try.sizeOf66 rfl rfl rfl rfl (by simp) ?_
   simp only [sc0, scS]
   refine At.nil ?_
   refine At.winCut 1 wd.mark rfl (by rw [List.length_map]; omega) ?_
   simp only [sc0, scS]
   rw [← List.map_drop]
   refine At.thenN ?_
   refine tR ?_
   refine tM rfl rfl ?_
   refine At.val (Val.nilCheck rfl) rfl rfl rfl ?_
   refine At.val (Val.field 1 rfl fo_68_1 rfl) rfl rfl rfl ?_
   refine At.store (i := 0) Try.sizeOf3 rfl rfl rfl rfl (by simp) ?_
   simp only [sc0, scS]
   refine tE ?_
   refine tR ?_
   refine tM rfl rfl ?_
   refine At.val (Val.nilCheck rfl) rfl rfl rfl ?_
   refine At.val (Val.field 0 rfl fo_68_0 rfl) rfl rfl rfl ?_
   refine At.val (Val.load (i := 0) Try.isAgg66 rfl rfl rfl) rfl rfl rfl ?_
   refine At.val (Val.len (bt := #[]) Try.underlying66 rfl) rfl rfl rfl ?_
   refine At.val (Val.bin rfl rfl rfl) rfl rfl rfl ?_
   refine tE ?_
   refine At.cond rfl (fun h5 => ?_) (fun h5 => ?_)
   ·skip
    try simp only [hasB, isSizeB, Bool.not_eq_true', Bool.not_eq_false', bne_iff_ne, ne_eq, bne_eq_false_iff_eq, beq_iff_eq, beq_eq_false_iff_ne, decide_eq_true_eq, decide_eq_false_iff_not, gt_iff_lt, ge_iff_le] at h5
    refine At.region ?_
    refine tM rfl rfl ?_
    refine At.val (Val.nilCheck rfl) rfl rfl rfl ?_
    refine At.val (Val.field 1 rfl fo_71_1 rfl) rfl rfl rfl ?_
    refine At.val (Val.load (i := 3) Try.isAgg69 rfl rfl rfl) rfl rfl rfl ?_
    refine tM rfl rfl ?_
    refine At.delIt (i := 5) Try.underlying69 Try.underlying3 rfl rfl rfl (fun cn6 hc7 => ?_)
    simp only [sc0, scS]
    refine At.nil ?_
    have hdn : (fenceW wd).news = [] := by rw [fz]; exact List.drop_eq_nil_of_le (by omega)
    refine At.dropD (wd := fenceW wd) hkl hdn ?_
    refine At.rot3 ?_
    rw [← mk_drop (g := g) hkl hdn]
    refine At.blkN ?_
    refine At.thenN ?_
    exact At.again ((ws.set k (fenceW wd), g), (fun q => (left q && q != 8 * (k : Int)) && q != 8 * (k : Int)), none, cn6) (finv_step hs hl hk (by simp) (fun q hq => by simp [hq])) (show cn6 < cnt by omega) (Sub.cons rfl (Sub.cons rfl Sub.nil)) (List.Perm.refl _)
   ·skip
    try simp only [hasB, isSizeB, Bool.not_eq_true', Bool.not_eq_false', bne_iff_ne, ne_eq, bne_eq_false_iff_eq, beq_iff_eq, beq_eq_false_iff_ne, decide_eq_true_eq, decide_eq_false_iff_not, gt_iff_lt, ge_iff_le] at h5
    have hdn : (fenceW wd).news ≠ [] := by rw [fz]; exact fun e => by have := congrArg List.length e; simp at this; omega
    rw [show wd.news.drop wd.mark = (fenceW wd).news from by rw [fz]]
    refine At.unfocusZ (wd := fenceW wd) (by rw [fz]) hkl hdn ?_
    refine At.rot3 ?_
    rw [← mk_keep (v' := .slice (some ⟨b, if c = wd.mark then o else o + wd.mark * 1, none⟩) (wd.news.length - wd.mark) (c - wd.mark)) hk hn hdn]
    refine At.skipC ?_
    refine At.blkN ?_
    refine At.thenN ?_
    exact At.again ((ws.set k (fenceW wd), upd g k ((g k).1, (.slice (some ⟨b, if c = wd.mark then o else o + wd.mark * 1, none⟩) (wd.news.length - wd.mark) (c - wd.mark)))), (fun q => left q && q != 8 * (k : Int)), some (8 * (k : Int), .pointer (some ⟨(g k).1, 0, none⟩)), cn) (finv_step hs hl hk (by simp) (fun q hq => by simp [hq])) (show cn < cnt by omega) (Sub.cons rfl (Sub.cons rfl Sub.nil)) (List.Perm.refl _)

theorem fence_0 (p : Nat) (γ : Gh) (σ : Ds) (w : World) (hno : deadB σ = true) (hd : (Dev p γ σ).holds w) :
    Upd Try.prog 21 [.pointer (some ⟨p, 0, none⟩)] (Dev p γ σ) (.int .i64 13) (Dev p γ σ) w := by
 refine enterVc hd Try.func21 rfl Try.ntmps21 rfl ?_
 have hgd := Dev.good hd
 simp only [envOf]
 refine tR ?_
 refine tA rfl rfl ?_
 refine tE ?_
 refine At.seq ?_
 refine tR ?_
 refine tM rfl rfl ?_
 refine At.callK 0 rfl (fun w hw hr => step_0 _ _ _ w hno hr) Try.call39 rfl rfl ?_
 refine tA rfl rfl ?_
 refine tE ?_
 refine tR ?_
 refine tM rfl rfl ?_
 refine At.val (Val.bin rfl rfl rfl) rfl rfl rfl ?_
 refine tE ?_
 refine At.condT rfl ?_
 refine tR ?_
 refine tM rfl rfl ?_
 refine tA rfl rfl ?_
 refine tE ?_
 refine At.retC ?_
 refine At.thenR ?_
 refine At.ret1 (.inl rfl) rfl rfl rfl (fun w hw => ?_)
 exact ⟨rfl, hw⟩

end Go.Proofs.Ytgighokkflchmaa
