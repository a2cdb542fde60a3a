/- Parts of the proof, joined: see the law's text. -/
import Derived.Test.YtfchinibjhcejaaGreatDoorU2
import Derived.Shelf.Sort.Plain
import Derived.Test.YtfchinibjhcejaaGreatDoorChecked
import Derived.Sort.OwnSortedInts
import Derived.Test.YtfchinibjhcejaaGreatDoorU1
set_option linter.unusedVariables false
set_option linter.unusedSimpArgs false
namespace Go.Proofs.YtfchinibjhcejaaGreatDoor
open Go Go.Wk
theorem fence_d (p : Nat) (γ : Gh) (σ : Ds) (w : World) (hs : σ.steps + 1 ≤ 1099511627776) (hno : deadB σ = false) (hd : (Dev p γ σ).holds w) :
    DevU Tryz.prog 89 [.pointer (some ⟨p, 0, none⟩)] p γ σ (.int .i64 0) (fenceD (stepD σ)) w := by
 refine enterVc hd Tryz.func89 rfl Tryz.ntmps89 rfl ?_
 have hgd := Dev.good hd
 have hln := hgd.len
 have hg1 := dgood_step hgd hs
 have hstp := hg1.steps
 simp only [envOf]
 refine tR (tA rfl rfl (tE (At.seq (tR (tM rfl rfl (At.callD 0 rfl (fun w hw hr => step_d _ _ _ w hs hno hr) Tryz.call118 rfl rfl (fun y1 => ?_)))))))
 simp only [sc0, scS]
 refine tA rfl rfl (tE (tR (tM rfl rfl (tV (Val.bin rfl rfl rfl) rfl (tE (At.condF rfl (At.skipC (At.thenN (At.seq (At.seq (At.openS 0 rfl ?_)))))))))))
 simp only [devL, List.cons_append, List.nil_append, ec0, ecS]
 refine At.region (tM rfl rfl (tV (Val.nilCheck rfl) rfl (tV (Val.field 1 rfl fo_111_1 rfl) rfl (tV (Val.load (i := 0) Tryz.isAgg109 rfl rfl rfl) rfl (At.range (i := 2) Tryz.underlying109 rfl rfl rfl (fun r2 cnt3 => ?_))))))
 simp only [sc0, scS]
 refine tE (At.block ?_)
 skip
 refine At.loop (σ := (List Wd × (Nat → Nat × Value)) × (Int → Bool) × Option (Int × Value) × Nat) (fun s => FInv (stepD σ).ws s.1.1 s.2.1) (fun s => [(0, .pointer (some ⟨p, 0, none⟩)), (15, .pointer (some ⟨r2, 0, none⟩))]) (fun s => [blk p tDv [y1.vo, .map (some y1.mb), .int .i64 ((stepD σ).steps : Int), .bool (stepD σ).armed, .int .i64 ((stepD σ).left : Int)], wrow tW y1.vo (olds s.1.1), iterR y1.mb r2 (mk s.1.1 s.1.2) s.2.1 s.2.2.1 s.2.2.2, fam (dI s.1.1 s.1.2), factR (Dgood (stepD σ))]) (fun s => s.2.2.2) (((stepD σ).ws, y1.g), (fun k => (mk (stepD σ).ws y1.g k).isSome), none, cnt3) (finv_start hg1 _) (Sub.cons rfl (Sub.cons rfl Sub.nil)) (List.Perm.refl _) ?_
 intro s hs
 obtain ⟨⟨ws, g⟩, left, cur, cnt⟩ := s
 dsimp only at hs ⊢
 refine tR ?_
 refine At.next (i := 2) rfl rfl rfl (fun hl => ?_) (fun x v cn hl hf hcn => ?_)
 skip
 ·refine tV (Val.extract rfl rfl) rfl (tE (At.seq (At.condF rfl (At.exitC (At.thenX (At.thenX (At.blkX (At.thenN (At.seq (At.iterEnd 2 rfl ?_))))))))))
  simp only [sc0, scS]
  refine At.region (tA rfl rfl (tE (At.retC (At.ret1 (.inl rfl) rfl rfl rfl (fun w hw => ?_)))))
  exact ⟨⟨y1.vo, y1.mb, g⟩, rfl, toDev (F := []) (fence_good hg1) (hw.drop (show List.Sublist [_, _, _, _] _ from (List.Sublist.refl _ |>.cons _ |>.cons_cons _ |>.cons_cons _ |>.cons_cons _ |>.cons_cons _))) rfl (by rw [finv_end hs hl]; rfl) (by rw [finv_end hs hl]; rfl) (by rw [finv_end hs hl]; rfl)⟩
 ·simp only [sc0, scS]
  obtain ⟨k, wd, rfl, hk, hn, rfl⟩ := mk_inv hf
  have hwk := finv_word hs hl hk
  have hwd := hg1.word wd (List.mem_of_getElem? hwk)
  have hkl := (List.getElem?_eq_some_iff.1 hk).1
  have hlen := hs.1
  have hsl : (stepD σ).ws.length = σ.ws.length := rfl
  refine tV (Val.extract rfl rfl) rfl (tE (At.seq (At.condT rfl (At.skipC (At.thenN (At.block (tR (tV (Val.entry (i := 2) rfl rfl) rfl (tV (Val.extract rfl rfl) rfl (tV (Val.extract rfl rfl) rfl (tA rfl rfl (tA rfl rfl (tE (At.seq (tR (tM rfl rfl (tV (Val.nilCheck rfl) rfl (tV (Val.field 1 rfl fo_115_1 rfl) rfl (tV (Val.loadDbt (i := 3) (q := 1) Tryz.isAgg3 rfl rfl hk hn rfl) rfl (tV (Val.bin rfl rfl rfl) rfl (tE ?_)))))))))))))))))))))
  refine At.cond rfl (fun h4 => ?_) (fun h4 => ?_)
  ·try simp only [hasB, isSizeB, sB] at h4
   have fz : ws.set k (fenceW wd) = ws := by rw [fenceW_calm (by omega)]; exact set_get hk
   refine At.exitC (At.thenX (At.blkX (At.thenN ?_)))
   exact At.again ((ws.set k (fenceW wd), g), (fun q => left q && q != 8 * (k : Int)), some (8 * (k : Int), .pointer (some ⟨(g k).1, 0, none⟩)), cn) (finv_step hs hl hk (by simp) (fun q hq => by simp [hq])) (show cn < cnt by omega) (Sub.cons rfl (Sub.cons rfl Sub.nil)) (by rw [fz])
  ·try simp only [hasB, isSizeB, sB] at h4
   refine At.skipC (At.thenN (At.seq ?_))
   have fz : fenceW wd = ⟨(wd.news[wd.mark - 1]?).getD wd.old, wd.news.drop wd.mark, 0⟩ := if_neg (by omega)
   obtain ⟨z, hz⟩ : ∃ z, wd.news[wd.mark - 1]? = some z := ⟨_, List.getElem?_eq_getElem (by omega)⟩
   rw [hz, Option.getD_some] at fz
   refine At.dbtSome 3 rfl hk hn (fun b o c hv => (At.dbtCap 3 rfl hk hn hv (fun hcap => (At.tail 18 rfl (by decide +kernel) ?_))))
   simp only [List.take_succ_cons, List.take_zero, List.drop_succ_cons, List.drop_zero]
   refine qM rfl rfl (qV (Val.nilCheck rfl) rfl (qV (Val.field 0 rfl fo_111_0 rfl) rfl (qV (Val.load (i := 0) Tryz.isAgg98 rfl rfl rfl) rfl (qM rfl rfl (qV (Val.quoI rfl rfl (by omega) (by omega) (by decide)) rfl ?_)))))
   rw [show 8 * (k : Int) / 8 = (k : Int) from by omega]
   refine qM rfl rfl (qV (Val.nilCheck rfl) rfl (qV (Val.field 0 rfl fo_115_0 rfl) rfl (qV (Val.loadDbt (i := 3) (q := 0) Tryz.isAgg98 rfl rfl hk hn rfl) rfl (qM rfl rfl (qV (Val.nilCheck rfl) rfl (qV (Val.field 1 rfl fo_115_1 rfl) rfl (qV (Val.loadDbt (i := 3) (q := 1) Tryz.isAgg3 rfl rfl hk hn rfl) rfl (qV (Val.subI rfl rfl (by omega) (by omega)) rfl ?_))))))))
   rw [hv]
   refine qV (Val.indexSl (o + (wd.mark - 1)) (by omega) Tryz.underlying98 Tryz.sizeOf43 rfl rfl (by omega) (by omega)) rfl (qV (Val.loadNews (i := 3) Tryz.isAgg43 rfl rfl hk hn hv rfl hz) rfl ?_)
   refine qV (Val.indexRow (i := 1) k (by omega) Tryz.underlying98 Tryz.sizeOf43 rfl rfl rfl (by omega) (by rw [olds_length]; omega)) rfl (QAt.fin ?_)
   refine At.storeRow (i := 1) Tryz.sizeOf43 rfl rfl rfl rfl (by rw [List.length_map, olds_length]; exact hkl) ?_
   simp only [sc0, scS]
   rw [← List.map_set, show (olds ws).set k z = olds (ws.set k (fenceW wd)) from by rw [olds_set, fz], show (olds ws).length = (olds (ws.set k (fenceW wd))).length from by rw [olds_length, olds_length, List.length_set]]
   refine tE (At.seq (At.focusD 3 rfl hk hn ?_))
   simp only [ec0, ecS]
   rw [hv]
   refine At.tail 12 rfl (by decide +kernel) ?_
   simp only [List.take_succ_cons, List.take_zero, List.drop_succ_cons, List.drop_zero]
   refine qM rfl rfl (qM rfl rfl (qV (Val.nilCheck rfl) rfl (qV (Val.field 0 rfl fo_115_0 rfl) rfl (qV (Val.load (i := 0) Tryz.isAgg98 rfl rfl rfl) rfl (qM rfl rfl (qV (Val.nilCheck rfl) rfl (qV (Val.field 1 rfl fo_115_1 rfl) rfl (qV (Val.load (i := 0) Tryz.isAgg3 rfl rfl rfl) rfl (qV (Val.cutSl wd.mark wd.news.length _ _ _ Tryz.underlying98 Tryz.sizeOf43 rfl ⟨_, _, rfl, by omega, by omega⟩ rfl (by omega) hcap rfl rfl rfl) rfl (qV (Val.nilCheck rfl) rfl (qV (Val.field 0 rfl fo_115_0 rfl) rfl (QAt.fin (At.store (i := 0) Tryz.sizeOf98 rfl rfl rfl rfl (by simp) ?_)))))))))))))
   simp only [sc0, scS]
   refine At.nil ?_
   refine At.winCut 1 wd.mark rfl (by rw [List.length_map]; omega) ?_
   simp only [sc0, scS]
   rw [← List.map_drop]
   refine At.thenN (tR (tM rfl rfl (tV (Val.nilCheck rfl) rfl (tV (Val.field 1 rfl fo_115_1 rfl) rfl (At.store (i := 0) Tryz.sizeOf3 rfl rfl rfl rfl (by simp) ?_)))))
   simp only [sc0, scS]
   refine tE (tR (tM rfl rfl (tV (Val.nilCheck rfl) rfl (tV (Val.field 0 rfl fo_115_0 rfl) rfl (tV (Val.load (i := 0) Tryz.isAgg98 rfl rfl rfl) rfl (tV (Val.len (bt := #[]) Tryz.underlying98 rfl) rfl (tV (Val.bin rfl rfl rfl) rfl (tE ?_))))))))
   refine At.cond rfl (fun h5 => ?_) (fun h5 => ?_)
   ·try simp only [hasB, isSizeB, sB] at h5
    refine At.region (tM rfl rfl (tV (Val.nilCheck rfl) rfl (tV (Val.field 1 rfl fo_111_1 rfl) rfl (tV (Val.load (i := 3) Tryz.isAgg109 rfl rfl rfl) rfl (tM rfl rfl (At.delIt (i := 5) Tryz.underlying109 Tryz.underlying3 rfl rfl rfl (fun cn6 hc7 => ?_)))))))
    simp only [sc0, scS]
    refine At.nil ?_
    have hdn : (fenceW wd).news = [] := by rw [fz]; exact List.drop_eq_nil_of_le (by omega)
    refine At.dropD (wd := fenceW wd) hkl hdn (At.rot3 ?_)
    rw [← mk_drop (g := g) hkl hdn]
    refine At.blkN (At.thenN ?_)
    exact At.again ((ws.set k (fenceW wd), g), (fun q => (left q && q != 8 * (k : Int)) && q != 8 * (k : Int)), none, cn6) (finv_step hs hl hk (by simp) (fun q hq => by simp [hq])) (show cn6 < cnt by omega) (Sub.cons rfl (Sub.cons rfl Sub.nil)) (List.Perm.refl _)
   ·try simp only [hasB, isSizeB, sB] at h5
    have hdn : (fenceW wd).news ≠ [] := by rw [fz]; exact fun e => by have := congrArg List.length e; simp at this; omega
    rw [show wd.news.drop wd.mark = (fenceW wd).news from by rw [fz]]
    refine At.unfocusZ (wd := fenceW wd) (by rw [fz]) hkl hdn (At.rot3 ?_)
    rw [← mk_keep (v' := .slice (some ⟨b, if c = wd.mark then o else o + wd.mark * 1, none⟩) (wd.news.length - wd.mark) (c - wd.mark)) hk hn hdn]
    refine At.skipC (At.blkN (At.thenN ?_))
    exact At.again ((ws.set k (fenceW wd), upd g k ((g k).1, (.slice (some ⟨b, if c = wd.mark then o else o + wd.mark * 1, none⟩) (wd.news.length - wd.mark) (c - wd.mark)))), (fun q => left q && q != 8 * (k : Int)), some (8 * (k : Int), .pointer (some ⟨(g k).1, 0, none⟩)), cn) (finv_step hs hl hk (by simp) (fun q hq => by simp [hq])) (show cn < cnt by omega) (Sub.cons rfl (Sub.cons rfl Sub.nil)) (List.Perm.refl _)
theorem fence_0 (p : Nat) (γ : Gh) (σ : Ds) (w : World) (hno : deadB σ = true) (hd : (Dev p γ σ).holds w) :
    Upd Tryz.prog 89 [.pointer (some ⟨p, 0, none⟩)] (Dev p γ σ) (.int .i64 13) (Dev p γ σ) w := by
 refine enterVc hd Tryz.func89 rfl Tryz.ntmps89 rfl ?_
 have hgd := Dev.good hd
 simp only [envOf]
 refine tR (tA rfl rfl (tE (At.seq (tR (tM rfl rfl (At.callK 0 rfl (fun w hw hr => step_0 _ _ _ w hno hr) Tryz.call118 rfl rfl (tA rfl rfl (tE (tR (tM rfl rfl (tV (Val.bin rfl rfl rfl) rfl (tE (At.condT rfl (tR (tM rfl rfl (tA rfl rfl (tE (At.retC (At.thenR (At.ret1 (.inl rfl) rfl rfl rfl (fun w hw => ?_)))))))))))))))))))))
 exact ⟨rfl, hw⟩
end Go.Proofs.YtfchinibjhcejaaGreatDoor
namespace Go.Proofs.YtfchinibjhcejaaGreatDoor
open Go Go.Wk
def lineD (σ : Ds) (l : Nat) : Ds := flushK (stepD σ) (8 * l) 8
def linesE : Nat → Ds → Nat → Int × Ds
  | _, σ, 0 => (0, σ)
  | l, σ, k + 1 => if deadB σ = true then (13, σ) else linesE (l + 1) (lineD σ l) k
theorem linesE_dead {l k : Nat} {σ : Ds} (h : deadB σ = true) : linesE l σ (k + 1) = (13, σ) := by unfold linesE; rw [if_pos h]
theorem linesE_live {l k : Nat} {σ : Ds} (h : deadB σ = false) : linesE l σ (k + 1) = linesE (l + 1) (lineD σ l) k := by
  show (if deadB σ = true then (13, σ) else linesE (l + 1) (lineD σ l) k) = _
  rw [if_neg (by rw [h]; simp)]
theorem lineD_rest (σ : Ds) (l : Nat) : (lineD σ l).steps = σ.steps + 1 ∧ (lineD σ l).armed = σ.armed ∧ (lineD σ l).ws.length = σ.ws.length := by
  obtain ⟨h1, h2, _, h4, _⟩ := flushK_rest (stepD σ) (8 * l) 8
  exact ⟨h1, h2, h4⟩
def storeD (σ : Ds) (k : Nat) (x : BitVec 64) : Ds := match σ.ws[k]? with | some w => setD (stepD σ) k (pushW w x) | none => σ
def storesE : Nat → Ds → List (BitVec 64) → Int × Ds
  | _, σ, [] => (0, σ)
  | k, σ, x :: l => if deadB σ = true then (13, σ) else storesE (k + 1) (storeD σ k x) l
theorem storesE_dead {k : Nat} {σ : Ds} {x : BitVec 64} {l : List (BitVec 64)} (h : deadB σ = true) : storesE k σ (x :: l) = (13, σ) := by unfold storesE; rw [if_pos h]
theorem storesE_live {k : Nat} {σ : Ds} {x : BitVec 64} {l : List (BitVec 64)} (h : deadB σ = false) : storesE k σ (x :: l) = storesE (k + 1) (storeD σ k x) l := by
  show (if deadB σ = true then (13, σ) else storesE (k + 1) (storeD σ k x) l) = _
  rw [if_neg (by rw [h]; simp)]
theorem storeD_some {σ : Ds} {k : Nat} {x : BitVec 64} {w : Wd} (h : σ.ws[k]? = some w) : storeD σ k x = setD (stepD σ) k (pushW w x) := by unfold storeD; rw [h]
theorem storeD_rest {σ : Ds} {k : Nat} (x : BitVec 64) (h : k < σ.ws.length) : (storeD σ k x).steps = σ.steps + 1 ∧ (storeD σ k x).armed = σ.armed ∧ (storeD σ k x).ws.length = σ.ws.length := by
  rw [storeD_some (List.getElem?_eq_getElem h)]
  exact ⟨rfl, rfl, by simp [setD, stepD]⟩
def cntP (a n cnt : Nat) : Prop := (n = 0 → cnt = 0) ∧ (0 < n → cnt = (a + n - 1) / 64 + 1 - a / 64)
def cntL (a n : Nat) : Nat := if n = 0 then 0 else (a + n - 1) / 64 + 1 - a / 64
theorem cntL_P (a n : Nat) : cntP a n (cntL a n) := ⟨fun h => by unfold cntL; rw [if_pos h], fun h => by unfold cntL; rw [if_neg (by omega)]⟩
theorem drop_cons {l : List (BitVec 64)} {j : Nat} {x : BitVec 64} (h : l[j]? = some x) : l.drop j = x :: l.drop (j + 1) := by
  have hj := List.getElem?_eq_some_iff.1 h
  rw [List.drop_eq_getElem_cons hj.1, hj.2]
theorem place_at' {σ : Ds} {a : Int} (h0 : 0 ≤ a) (h1 : a < 8 * (σ.ws.length : Int)) (h8 : a % 8 = 0) : placeE σ a = 0 := by
  obtain ⟨k, rfl⟩ : ∃ k : Nat, a = 8 * (k : Int) := ⟨(a / 8).toNat, by omega⟩
  exact place_at (by omega)
theorem flushAll_d (p : Nat) (γ : Gh) (σ : Ds) (a n cnt : Nat) (w : World) (han : a + n ≤ 8 * σ.ws.length) (hct : cntP a n cnt) (hst : σ.steps + cnt ≤ 1099511627776) (hd : (Dev p γ σ).holds w) :
    DevU Tryz.prog 88 [.pointer (some ⟨p, 0, none⟩), .int .i64 (a : Int), .int .i64 (n : Int)] p γ σ (.int .i64 (linesE (a / 64) σ cnt).1) (linesE (a / 64) σ cnt).2 w := by
 refine enterVc hd Tryz.func88 rfl Tryz.ntmps88 rfl ?_
 have hgd := Dev.good hd
 have hln := hgd.len
 obtain ⟨hc0, hc1⟩ := hct
 simp only [envOf]
 refine tR (tA rfl rfl (tE (At.seq (tR (tM rfl rfl (tM rfl rfl (tM rfl rfl (At.callK 0 rfl (fun w hw hr => has_k _ _ _ _ _ w hr) Tryz.call115 rfl rfl (tV (Val.not rfl) rfl (tE ?_))))))))))
 refine At.cond rfl (fun h1 => ?_) (fun h1 => ?_)
 ·try simp only [hasB, isSizeB, sB] at h1
  omega
 ·try simp only [hasB, isSizeB, sB] at h1
  refine At.skipC (At.thenN (At.seq (tR (tM rfl rfl (tM rfl rfl ?_)))))
  first | refine tV (Val.remI rfl rfl (by omega) (by decide)) rfl ?_ | refine tV (Val.rem rfl rfl (by decide)) rfl ?_
  first | refine tV (Val.subI rfl rfl (by omega) (by omega)) rfl ?_ | refine tV (Val.bin rfl rfl rfl) rfl ?_
  refine tA rfl rfl (tE (At.block ?_))
  skip
  refine At.loop (σ := (Nat × Ds) × Gh) (fun s => s.1.1 ≤ cnt ∧ linesE (a / 64) σ cnt = linesE (a / 64 + s.1.1) s.1.2 (cnt - s.1.1) ∧ s.1.2.ws.length = σ.ws.length ∧ s.1.2.steps = σ.steps + s.1.1) (fun s => [(0, .pointer (some ⟨p, 0, none⟩)), (1, .int .i64 (a : Int)), (2, .int .i64 (n : Int)), (7, .int .i64 (64 * (((a / 64 : Nat) : Int) + (s.1.1 : Int))))]) (fun s => [Dev p s.2 s.1.2]) (fun s => cnt - s.1.1) ((0, σ), γ) ⟨Nat.zero_le _, rfl, rfl, rfl⟩ (Sub.cons rfl (Sub.cons rfl (Sub.cons rfl (Sub.cons (congrArg (fun z => some (Value.int IntKind.i64 z)) (by dsimp only; omega)) Sub.nil)))) (List.Perm.refl _) ?_
  intro s hs
  obtain ⟨⟨j, σ1⟩, γ1⟩ := s
  dsimp only at hs ⊢
  obtain ⟨hj, he, hl1, hs1⟩ := hs
  refine At.seq (tR (tM rfl rfl (tM rfl rfl (tM rfl rfl ?_))))
  first | refine tV (Val.addI rfl rfl (by omega) (by omega)) rfl ?_ | refine tV (Val.bin rfl rfl rfl) rfl ?_
  refine tV (Val.bin rfl rfl rfl) rfl (At.weaken [(0, _), (1, _), (2, _), (7, _), (22, _)] (Sub.cons rfl (Sub.cons rfl (Sub.cons rfl (Sub.cons rfl (Sub.cons rfl Sub.nil))))) ?_)
  refine At.boolMeet 4 26 (decide (j < cnt)) ?_ ?_
  ·simp only [List.take_succ_cons, List.take_zero]
   refine tM rfl rfl ?_
   refine At.split (t := 23) rfl (fun h2 => ?_) (fun h2 => ?_)
   ·try simp only [hasB, isSizeB, sB] at h2
    refine At.yes rfl rfl (tM rfl rfl (At.yes rfl rfl (tV (Val.bin rfl rfl rfl) rfl (tV (Val.pickT rfl rfl) rfl (At.nil ?_)))))
    exact At.boolEnd rfl (by apply Bool.eq_iff_iff.2; (simp only [decide_eq_true_eq, Bool.false_eq_true, false_iff, true_iff, gt_iff_lt, ge_iff_le]) <;> omega) (by repeat (first | exact Sub.nil | refine Sub.cons rfl ?_))
   ·try simp only [hasB, isSizeB, sB] at h2
    refine At.no rfl rfl rfl rfl (At.no rfl rfl rfl rfl (tV (Val.pickF rfl rfl) rfl (At.nil ?_)))
    exact At.boolEnd rfl (by apply Bool.eq_iff_iff.2; (simp only [decide_eq_true_eq, Bool.false_eq_true, false_iff, true_iff, gt_iff_lt, ge_iff_le]) <;> omega) (by repeat (first | exact Sub.nil | refine Sub.cons rfl ?_))
  ·simp only [List.drop_succ_cons, List.drop_zero]
   refine tE ?_
   refine At.cond rfl (fun h3 => ?_) (fun h3 => ?_)
   ·try simp only [hasB, isSizeB, sB] at h3
    refine At.skipC (At.thenN (At.seq (At.block (tR (tM rfl rfl (tM rfl rfl ?_))))))
    cases hdb : deadB σ1
    ·refine At.callD 0 rfl (fun w hw hr => flush_d _ _ _ (64 * ((a / 64 : Nat) + j)) (8 * (a / 64 + j)) w (by omega) (by omega) (by omega) (by omega) hdb hr) Tryz.call119 rfl rfl (fun y4 => ?_)
     simp only [sc0, scS]
     refine tA rfl rfl (tE (tR (tM rfl rfl (tV (Val.bin rfl rfl rfl) rfl (tE (At.condF rfl (At.skipC (At.blkN (At.thenN (At.region (tM rfl rfl ?_)))))))))))
     first | refine tV (Val.addI rfl rfl (by omega) (by omega)) rfl ?_ | refine tV (Val.bin rfl rfl rfl) rfl ?_
     refine tA rfl rfl (tE ?_)
     exact At.again ((j + 1, lineD σ1 (a / 64 + j)), y4) ⟨(show j + 1 ≤ cnt by omega), (by rw [he, show cnt - j = (cnt - (j + 1)) + 1 by omega, linesE_live hdb]; rfl), (lineD_rest σ1 _).2.2.trans hl1, (show (lineD σ1 (a / 64 + j)).steps = σ.steps + (j + 1) by have := (lineD_rest σ1 (a / 64 + j)).1; omega)⟩ (by dsimp only; omega) (Sub.cons rfl (Sub.cons rfl (Sub.cons rfl (Sub.cons (congrArg (fun z => some (Value.int IntKind.i64 z)) (by dsimp only; omega)) Sub.nil)))) (List.Perm.refl _)
    ·refine At.callK 0 rfl (fun w hw hr => flush_0 _ _ _ _ w (by omega) (by omega) hdb hr) Tryz.call119 rfl rfl (tA rfl rfl (tE (tR (tM rfl rfl (tV (Val.bin rfl rfl rfl) rfl (tE (At.condT rfl (tR (tM rfl rfl (tA rfl rfl (tE (At.retC (At.blkR (At.thenR (At.thenR (At.blkR (At.thenR (At.ret1 (.inl rfl) rfl rfl rfl (fun w hw => ?_)))))))))))))))))))
     rw [he, show cnt - j = (cnt - j - 1) + 1 by omega, linesE_dead hdb]
     exact ⟨_, rfl, hw⟩
   ·try simp only [hasB, isSizeB, sB] at h3
    refine At.exitC (At.thenX (At.thenX (At.blkX (At.thenN (tR (tA rfl rfl (tE (At.retC (At.ret1 (.inl rfl) rfl rfl rfl (fun w hw => ?_))))))))))
    rw [he, show cnt - j = 0 by omega]
    exact ⟨_, rfl, hw⟩
end Go.Proofs.YtfchinibjhcejaaGreatDoor
namespace Go.Proofs.YtfchinibjhcejaaGreatDoor
open Go Go.Shelf Go.Sort Go.RowKit Go.Proofs
def sort_ren : Go.Shelf.Ren := ⟨fun | 125 => 122 | 128 => 148 | 129 => 149 | 189 => 95 | 215 => 178 | 216 => 145 | 257 => 121 | 294 => 139 | 295 => 140 | 296 => 141 | 297 => 142 | 298 => 143 | 299 => 144 | 300 => 146 | 301 => 147 | 328 => 173 | 329 => 174 | 330 => 175 | 331 => 176 | 332 => 177 | 343 => 186 | n => n, fun | 0 => 0 | 3 => 3 | 4 => 4 | 5 => 5 | 9 => 9 | 28 => 63 | 46 => 131 | 51 => 106 | 53 => 43 | 131 => 208 | 182 => 203 | 183 => 204 | 218 => 223 | 222 => 227 | 228 => 233 | 229 => 234 | n => n, fun n => n⟩
theorem sort_lays : Lays.n189 Tryz.prog sort_ren := {
  mixed := by kernel_rfl
  f125 := Tryz.func122.trans (congrArg some (by kernel_rfl))
  f128 := Tryz.func148.trans (congrArg some (by kernel_rfl))
  f129 := Tryz.func149.trans (congrArg some (by kernel_rfl))
  f189 := Tryz.func95.trans (congrArg some (by kernel_rfl))
  f215 := Tryz.func178.trans (congrArg some (by kernel_rfl))
  f216 := Tryz.func145.trans (congrArg some (by kernel_rfl))
  f257 := Tryz.func121.trans (congrArg some (by kernel_rfl))
  f294 := Tryz.func139.trans (congrArg some (by kernel_rfl))
  f295 := Tryz.func140.trans (congrArg some (by kernel_rfl))
  f296 := Tryz.func141.trans (congrArg some (by kernel_rfl))
  f297 := Tryz.func142.trans (congrArg some (by kernel_rfl))
  f298 := Tryz.func143.trans (congrArg some (by kernel_rfl))
  f299 := Tryz.func144.trans (congrArg some (by kernel_rfl))
  f300 := Tryz.func146.trans (congrArg some (by kernel_rfl))
  f301 := Tryz.func147.trans (congrArg some (by kernel_rfl))
  f328 := Tryz.func173.trans (congrArg some (by kernel_rfl))
  f329 := Tryz.func174.trans (congrArg some (by kernel_rfl))
  f330 := Tryz.func175.trans (congrArg some (by kernel_rfl))
  f331 := Tryz.func176.trans (congrArg some (by kernel_rfl))
  f332 := Tryz.func177.trans (congrArg some (by kernel_rfl))
  f343 := Tryz.func186.trans (congrArg some (by kernel_rfl))
  t0 := Tryz.underlying0
  a0 := Tryz.isAgg0
  z0 := Tryz.sizeOf0
  v0 := Tryz.zeroValue0
  t3 := Tryz.underlying3
  a3 := Tryz.isAgg3
  z3 := Tryz.sizeOf3
  v3 := Tryz.zeroValue3
  t4 := Tryz.underlying4
  a4 := Tryz.isAgg4
  z4 := Tryz.sizeOf4
  v4 := Tryz.zeroValue4
  t5 := Tryz.underlying5
  a5 := Tryz.isAgg5
  z5 := Tryz.sizeOf5
  v5 := Tryz.zeroValue5
  t9 := Tryz.underlying9
  a9 := Tryz.isAgg9
  z9 := Tryz.sizeOf9
  v9 := Tryz.zeroValue9
  t28 := Tryz.underlying63
  a28 := Tryz.isAgg63
  z28 := Tryz.sizeOf63
  v28 := Tryz.zeroValue63
  t46 := Tryz.underlying131
  a46 := Tryz.isAgg131
  z46 := Tryz.sizeOf131
  v46 := Tryz.zeroValue131
  t51 := Tryz.underlying106
  a51 := Tryz.isAgg106
  z51 := Tryz.sizeOf106
  v51 := Tryz.zeroValue106
  t53 := Tryz.underlying43
  a53 := Tryz.isAgg43
  z53 := Tryz.sizeOf43
  v53 := Tryz.zeroValue43
  t131 := Tryz.underlying208
  a131 := Tryz.isAgg208
  z131 := Tryz.sizeOf208
  v131 := Tryz.zeroValue208
  t182 := Tryz.underlying203
  a182 := Tryz.isAgg203
  z182 := Tryz.sizeOf203
  v182 := Tryz.zeroValue203
  t183 := Tryz.underlying204
  a183 := Tryz.isAgg204
  z183 := Tryz.sizeOf204
  v183 := Tryz.zeroValue204
  t218 := Tryz.underlying223
  a218 := Tryz.isAgg223
  z218 := Tryz.sizeOf223
  v218 := Tryz.zeroValue223
  t222 := Tryz.underlying227
  a222 := Tryz.isAgg227
  z222 := Tryz.sizeOf227
  v222 := Tryz.zeroValue227
  t228 := Tryz.underlying233
  a228 := Tryz.isAgg233
  z228 := Tryz.sizeOf233
  v228 := Tryz.zeroValue233
  t229 := Tryz.underlying234
  a229 := Tryz.isAgg234
  z229 := Tryz.sizeOf234
  v229 := Tryz.zeroValue234 }
theorem sort_ints (blk off cap : Nat) (zs : List Int) (w : World) (hH : Holds (Value.int .i64) w blk off zs.toArray) (hblk : blk < w.heap.size) (hsz : zs.length < 4611686018427387904) :
    Calls Tryz.prog 95 #[.slice (some ⟨blk, off, none⟩) zs.length cap] w fun e w' =>
      e = .returned (.tuple #[]) ∧ ∃ n os, w' = grow (putRow (Value.int .i64) (Sort.ahead w n) blk off (zs.mergeSort fun x y => decide (x ≤ y)).toArray) os :=
  Any.slices_Sort_int sort_lays blk off cap zs w hH hblk hsz
theorem bits_len (x : Int) (w : World) (h0 : 0 ≤ x) (h1 : x ≤ 18446744073709551615) : Calls Tryz.prog 122 #[.int .u64 x] w fun e w' => e = .returned (.int .i64 (Lib.bitLen x.toNat)) ∧ w' = w :=
  Go.calls_of_every_depth fun D => AnyS.bits_LenIn { sort_lays with } D x w h0 h1
end Go.Proofs.YtfchinibjhcejaaGreatDoor
namespace Go.Proofs.YtfchinibjhcejaaGreatDoor
open Go Go.Wk
abbrev irow (e : Nat) (v : Value) (l : List Int) : Res := rowR v e 1 l.length (l.map (Value.int .i64))
theorem At.rowNilI {Γ : Ctx} {E : Env} {H : List Res} (e : Nat) {φ : Act → World → Prop} (k : At Γ E (irow e (.slice none 0 0) [] :: H) φ) : At Γ E H φ := At.rowNil e 1 k
theorem At.appendI1 {P : Program} {Γ : Ctx} {E : Env} {H : List Res} {ops : Array Oper} {Q : Exit → Act → World → Prop} {rest : List Oper} {d : Nat} {ty : TypeId} {pos : String} {after : Array Edge} {x y : Operand} {v : Value} {i j t e by_ b U : Nat} {ti : TypeInfo} {z : Value} {l : List Int} {c : Int} (ht : P.underlying t = some (.slice e)) (hti : P.info? e = some ti) (hz : ti.zero = some z) (hsize : ti.size = 1) (hby : ti.bytes = by_) (hzs : z.cells.size = 1)
    (hx : ev E x = some v) (hy : ev E y = some (.slice (some ⟨b, 0, none⟩) 1 1)) (hi : H[i]? = some (irow e v l)) (hj : H[j]? = some (blk b U [.int .i64 c])) (h63 : (l.length + 1) * by_ ≤ 140737488355328) (h64 : l.length + 1 ≤ 140737488355328) (hn : Nat.blt d Γ.n = true)
    (k : ∀ v', At Γ ((d, v') :: E) (H.set i (irow e v' (l ++ [c]))) (wpList P ops Q rest)) :
    At Γ E H (wpList P ops Q ({ dst := some d, op := .call { callee := .builtin .append, args := #[x, y], argTypes := #[t, t] }, type := ty, pos, after, guard := none } :: rest)) :=
  At.append (i := i) (ys := [.int .i64 c]) ht hti hz hsize hby hzs rfl hx hy hi rfl (fun w hw j' u hj' => by rw [Nat.zero_add]; exact ((hw.blk hj).cell j').trans hj') (by simp [Value.oneCell']) h63 h64 hn fun v' => by
    have := k v'
    simpa only [irow, List.map_append, List.map_cons, List.map_nil, List.length_append, List.length_cons, List.length_nil, Nat.zero_add] using this
def inDoubt (w : Wd) : Bool := !w.news.isEmpty
def dk (ws : List Wd) : List Nat := (List.range ws.length).filter fun k => match ws[k]? with | some w => inDoubt w | none => false
def dkeys (ws : List Wd) : List Int := (dk ws).map fun (k : Nat) => 8 * (k : Int)
theorem mem_dk {ws : List Wd} {k : Nat} : k ∈ dk ws ↔ ∃ w, ws[k]? = some w ∧ w.news ≠ [] := by
  unfold dk
  rw [List.mem_filter, List.mem_range]
  constructor
  · rintro ⟨h1, h2⟩
    cases hk : ws[k]? with
    | none => rw [hk] at h2; cases h2
    | some w => rw [hk] at h2; exact ⟨w, rfl, by intro e; simp [inDoubt, e] at h2⟩
  · rintro ⟨w, h1, h2⟩
    refine ⟨(List.getElem?_eq_some_iff.1 h1).1, ?_⟩
    rw [h1]
    cases h : w.news with
    | nil => exact absurd h h2
    | cons a l => simp [inDoubt, h]
theorem dk_rising (ws : List Wd) : (dk ws).Pairwise (· < ·) := List.pairwise_lt_range.filter _
theorem dkeys_rising (ws : List Wd) : (dkeys ws).Pairwise (· < ·) := by
  unfold dkeys
  rw [List.pairwise_map]
  exact (dk_rising ws).imp fun h => by omega
theorem mem_dkeys {ws : List Wd} {g : Nat → Nat × Value} {x : Int} : x ∈ dkeys ws ↔ (mk ws g x).isSome = true := by
  unfold dkeys
  rw [List.mem_map]
  constructor
  · rintro ⟨k, hk, rfl⟩
    obtain ⟨w, h1, h2⟩ := mem_dk.1 hk
    rw [mk_at, mkN_some h1 h2]; rfl
  · intro h
    obtain ⟨v, hv⟩ := Option.isSome_iff_exists.1 h
    obtain ⟨k, w, rfl, h1, h2, _⟩ := mk_inv hv
    exact ⟨k, mem_dk.2 ⟨w, h1, h2⟩, rfl⟩
theorem rising_eq : ∀ {a b : List Int}, a.Pairwise (· < ·) → b.Pairwise (· < ·) → (∀ x, x ∈ a ↔ x ∈ b) → a = b
  | [], [], _, _, _ => rfl
  | [], y :: b, _, _, h => by have := (h y).2 (by simp); cases this
  | x :: a, [], _, _, h => by have := (h x).1 (by simp); cases this
  | x :: a, y :: b, ha, hb, h => by
    have ha' := List.pairwise_cons.1 ha
    have hb' := List.pairwise_cons.1 hb
    have hxy : x = y := by
      rcases List.mem_cons.1 ((h x).1 (by simp)) with e | e
      · exact e
      · rcases List.mem_cons.1 ((h y).2 (by simp)) with e' | e'
        · exact e'.symm
        · have := hb'.1 x e; have := ha'.1 y e'; omega
    subst hxy
    congr 1
    refine rising_eq ha'.2 hb'.2 fun z => ?_
    have hz := h z
    simp only [List.mem_cons] at hz
    constructor
    · intro hm
      have := ha'.1 z hm
      rcases hz.1 (.inr hm) with e | e
      · omega
      · exact e
    · intro hm
      have := hb'.1 z hm
      rcases hz.2 (.inr hm) with e | e
      · omega
      · exact e
theorem rising_len : ∀ {l : List Int} {a n : Nat}, l.Pairwise (· < ·) → (∀ x ∈ l, ∃ i : Nat, x = 8 * (i : Int) ∧ a ≤ i ∧ i < n) → l ≠ [] → l.length + a ≤ n
  | [], _, _, _, _, h => absurd rfl h
  | [x], a, n, _, h, _ => by obtain ⟨i, _, h1, h2⟩ := h x (by simp); simp; omega
  | x :: y :: l, a, n, hp, h, _ => by
    obtain ⟨i, rfl, h1, h2⟩ := h x (by simp)
    have hp' := List.pairwise_cons.1 hp
    have := rising_len (l := y :: l) (a := i + 1) (n := n) hp'.2 (fun z hz => by
      obtain ⟨q, rfl, h3, h4⟩ := h z (List.mem_cons_of_mem _ hz)
      have := hp'.1 _ hz
      exact ⟨q, rfl, by omega, h4⟩) (by simp)
    simp only [List.length_cons] at this ⊢
    omega
theorem sorted_rising {l : List Int} (hn : l.Nodup) : (l.mergeSort fun x y => decide (x ≤ y)).Pairwise (· < ·) := by
  have h1 := List.pairwise_mergeSort (le := fun (x y : Int) => decide (x ≤ y)) (fun a b c h1 h2 => by simp at *; omega) (fun a b => by simp; omega) l
  have h2 : (l.mergeSort fun x y => decide (x ≤ y)).Nodup := (List.mergeSort_perm l _).nodup_iff.2 hn
  exact (h1.and h2).imp fun ⟨h3, h4⟩ => by simp at h3; omega
def Coll (ws : List Wd) (g : Nat → Nat × Value) (left : Int → Bool) (l : List Int) : Prop := l.Nodup ∧ ∀ x, x ∈ l ↔ ((mk ws g x).isSome = true ∧ left x = false)
theorem coll_start (ws : List Wd) (g : Nat → Nat × Value) : Coll ws g (fun k => (mk ws g k).isSome) [] := ⟨by simp, fun x => ⟨fun h => (by cases h), fun ⟨h1, h2⟩ => absurd (show (mk ws g x).isSome = false from h2) (by rw [h1]; simp)⟩⟩
theorem coll_step {ws : List Wd} {g : Nat → Nat × Value} {left : Int → Bool} {l : List Int} {x : Int} {v : Value} (h : Coll ws g left l) (hl : left x = true) (hf : mk ws g x = some v) : Coll ws g (fun q => left q && q != x) (l ++ [x]) := by
  have hx : x ∉ l := fun hm => by have := ((h.2 x).1 hm).2; rw [hl] at this; cases this
  refine ⟨List.nodup_append.2 ⟨h.1, by simp, fun a ha b hb => by rw [List.mem_singleton.1 hb]; intro e; exact hx (e ▸ ha)⟩, fun q => ?_⟩
  rw [List.mem_append, List.mem_singleton, h.2 q]
  constructor
  · rintro (⟨h1, h2⟩ | rfl)
    · exact ⟨h1, by show (left q && q != x) = false; rw [h2]; rfl⟩
    · exact ⟨by rw [hf]; rfl, by simp⟩
  · rintro ⟨h1, h2⟩
    by_cases e : q = x
    · exact .inr e
    · refine .inl ⟨h1, ?_⟩
      have : (q != x) = true := by simpa using e
      have h2 : (left q && q != x) = false := h2
      rw [this, Bool.and_true] at h2; exact h2
theorem coll_len {ws : List Wd} {g : Nat → Nat × Value} {left : Int → Bool} {l : List Int} (h : Coll ws g left l) : l.length ≤ ws.length := by
  by_cases e : l = []
  · subst e; simp
  · have hr := sorted_rising h.1
    have := rising_len (a := 0) (n := ws.length) hr (fun x hx => by
      have hx' := ((h.2 x).1 ((List.mergeSort_perm l _).mem_iff.1 hx)).1
      obtain ⟨v, hv⟩ := Option.isSome_iff_exists.1 hx'
      obtain ⟨k, w, rfl, h1, _, _⟩ := mk_inv hv
      exact ⟨k, rfl, Nat.zero_le _, (List.getElem?_eq_some_iff.1 h1).1⟩) (fun h0 => e (by have := congrArg List.length h0; rw [List.length_mergeSort] at this; exact List.eq_nil_of_length_eq_zero this))
    rw [List.length_mergeSort] at this
    omega
theorem coll_end {ws : List Wd} {g : Nat → Nat × Value} {left : Int → Bool} {l : List Int} (h : Coll ws g left l) (hl : ∀ k, left k = false) : l.mergeSort (fun x y => decide (x ≤ y)) = dkeys ws :=
  rising_eq (sorted_rising h.1) (dkeys_rising ws) fun x => by
    rw [(List.mergeSort_perm l _).mem_iff, h.2 x, hl x, mem_dkeys (g := g)]
    simp
theorem ins_nil (w : World) :
    PureC Tryz.prog 139 [.slice none 0 0, .int .i64 0, .int .i64 0] (.tuple #[]) w := by
 refine enter0 Tryz.func139 rfl Tryz.ntmps139 rfl ?_
 simp only [envOf]
 refine tR (tM rfl rfl ?_)
 first | refine tV (Val.addI rfl rfl (by omega) (by omega)) rfl ?_ | refine tV (Val.bin rfl rfl rfl) rfl ?_
 refine tA rfl rfl (tE (At.block ?_))
 skip
 refine At.loop (σ := Unit) (fun u => True) (fun u => [(2, .int .i64 0), (6, .int .i64 1)]) (fun u => []) (fun u => 0) () trivial (Sub.cons rfl (Sub.cons rfl Sub.nil)) (List.Perm.refl _) ?_
 intro u hs
 refine At.seq (tR (tM rfl rfl (tM rfl rfl (tV (Val.bin rfl rfl rfl) rfl (tE ?_)))))
 refine At.cond rfl (fun h1 => ?_) (fun h1 => ?_)
 ·try simp only [hasB, isSizeB, sB] at h1
  omega
 ·try simp only [hasB, isSizeB, sB] at h1
  refine At.exitC (At.thenX (At.thenX (At.blkX (At.ret0 (.inr rfl) rfl rfl  (fun w hw => ?_)))))
  exact ⟨rfl, hw.mod⟩
theorem pdq_nil (k : Int) (w : World) :
    PureC Tryz.prog 121 [.slice none 0 0, .int .i64 0, .int .i64 0, .int .i64 k] (.tuple #[]) w := by
 refine enter0 Tryz.func121 rfl Tryz.ntmps121 rfl ?_
 simp only [envOf]
 refine tR (tA rfl rfl (tE (tR (tA rfl rfl (tE (At.block ?_))))))
 skip
 refine At.loop (σ := Unit) (fun u => True) (fun u => [(0, .slice none 0 0), (1, .int .i64 0), (2, .int .i64 0)]) (fun u => []) (fun u => 0) () trivial (Sub.cons rfl (Sub.cons rfl (Sub.cons rfl Sub.nil))) (List.Perm.refl _) ?_
 intro u hs
 refine At.block (tR (tM rfl rfl (tM rfl rfl ?_)))
 first | refine tV (Val.subI rfl rfl (by omega) (by omega)) rfl ?_ | refine tV (Val.bin rfl rfl rfl) rfl ?_
 refine tA rfl rfl (tE (At.seq (tR (tM rfl rfl (tV (Val.bin rfl rfl rfl) rfl (tE ?_))))))
 refine At.cond rfl (fun h1 => ?_) (fun h1 => ?_)
 ·try simp only [hasB, isSizeB, sB] at h1
  refine tR (tM rfl rfl (tM rfl rfl (tM rfl rfl (At.callP (fun w hw => ins_nil w) Tryz.call139 rfl rfl (tE (At.retC (At.thenR (At.blkR (At.thenR (At.blkR (At.ret0 (.inl rfl) rfl rfl  (fun w hw => ?_))))))))))))
  exact ⟨rfl, hw.mod⟩
 ·try simp only [hasB, isSizeB, sB] at h1
  omega
theorem sort_nil (w : World) :
    PureC Tryz.prog 95 [.slice none 0 0] (.tuple #[]) w := by
 refine enter0 Tryz.func95 rfl Tryz.ntmps95 rfl ?_
 simp only [envOf]
 refine tR (tM rfl rfl (tV (Val.len (bt := #[]) Tryz.underlying63 rfl) rfl (tA rfl rfl (tE (At.region (tM rfl rfl (tM rfl rfl (tM rfl rfl (tV (Val.conv (P := Tryz.prog) (s := 3) (t := 131) Tryz.underlying3 Tryz.underlying131 rfl) rfl ?_)))))))))
 rw [show IntKind.u64.wrap ((0 : Nat) : Int) = 0 from rfl]
 refine At.callP (fun w hw => (bits_len 0 w (by omega) (by omega)).mono fun e w' ⟨h1, h2⟩ => ⟨h1, by subst h2; exact Mod.refl _ _⟩) Tryz.call122 rfl rfl (At.callP (fun w hw => pdq_nil _ w) Tryz.call121 rfl rfl (At.nil (At.ret0 (.inr rfl) rfl rfl  (fun w hw => ?_))))
 exact ⟨rfl, hw.mod⟩
theorem sort_u (v : Value) (l : List Int) (w : World) (h : (irow 3 v l).holds w) (hl : l.length < 4611686018427387904) : Upd Tryz.prog 95 [v] (irow 3 v l) (.tuple #[]) (irow 3 v (l.mergeSort fun x y => decide (x ≤ y))) w := by
  have hm : ∀ w', Mod (fun _ => False) w w' → Rep w (feet [irow 3 v l]) [irow 3 v l] w' := fun w' hm' => (Rep.one h).garbage hm'
  have h0 : w.ownsRow 0 3 1 v l.length (l.map (Value.int .i64)) := h
  rcases h0.2 with ⟨rfl, hn⟩ | ⟨g, cap, cur, rfl, hbase, hb, h1, h2, h3, h4⟩
  · have : l = [] := List.eq_nil_of_length_eq_zero hn
    subst this
    exact (sort_nil w).mono fun e w' ⟨he, hmod⟩ => ⟨he, by rw [List.mergeSort_nil]; exact hm w' hmod⟩
  · refine (sort_ints g 0 cap l w (holds_of_blockI hb (by simpa using h4)) (Array.getElem?_eq_some_iff.1 hb).1 hl).mono ?_
    rintro e w' ⟨rfl, n, os, rfl⟩
    refine ⟨rfl, ?_⟩
    have hg := grownBy_sortedI (w := w) (g := g) (n := n) (os := os) (l.mergeSort fun x y => decide (x ≤ y)).toArray
    have ho := ownsRow_sortedI (w := w) (base := 0) (n := n) (os := os) (ts := l.mergeSort fun x y => decide (x ≤ y)) (by simp) hbase hb h1 h2 h3
    exact Rep.change (i := 0) (r := irow 3 (.slice (some ⟨g, 0, none⟩) l.length cap) l) (r' := irow 3 (.slice (some ⟨g, 0, none⟩) l.length cap) (l.mergeSort fun x y => decide (x ≤ y))) rfl (Rep.one h) (grown_mod hg) (by
      show World.ownsRow _ 0 _ 1 _ _ _
      rw [List.length_mergeSort]; exact ho) (fun b hb => .inl hb)
theorem places_k (p : Nat) (γ : Gh) (σ : Ds) (w : World) (hd : (Dev p γ σ).holds w) :
    RowK Tryz.prog 57 [.pointer (some ⟨p, 0, none⟩)] (Dev p γ σ) 3 1 (dkeys σ.ws).length ((dkeys σ.ws).map (Value.int .i64)) w := by
 refine enterV hd Tryz.func57 rfl Tryz.ntmps57 rfl ?_
 unfold devL
 have hgd := Dev.good hd
 have hln := hgd.len
 simp only [envOf]
 refine tR (tA rfl rfl (tE (tR (tA rfl rfl (tE (At.seq (At.seq (At.rowNilI 3 (At.region (tM rfl rfl (tV (Val.nilCheck rfl) rfl (tV (Val.field 1 rfl fo_111_1 rfl) rfl (tV (Val.load (i := 1) Tryz.isAgg109 rfl rfl rfl) rfl (At.range (i := 3) Tryz.underlying109 rfl rfl rfl (fun r1 cnt2 => ?_)))))))))))))))
 simp only [sc0, scS]
 refine tE (At.block ?_)
 skip
 refine At.loop (σ := (Int → Bool) × Option (Int × Value) × Nat × List Int × Value) (fun s => Coll σ.ws γ.g s.1 s.2.2.2.1) (fun s => [(0, .pointer (some ⟨p, 0, none⟩)), (3, s.2.2.2.2), (9, .pointer (some ⟨r1, 0, none⟩))]) (fun s => [irow 3 s.2.2.2.2 s.2.2.2.1, blk p tDv [γ.vo, .map (some γ.mb), .int .i64 (σ.steps : Int), .bool σ.armed, .int .i64 (σ.left : Int)], wrow tW γ.vo (olds σ.ws), iterR γ.mb r1 (mk σ.ws γ.g) s.1 s.2.1 s.2.2.1, fam (dI σ.ws γ.g), factR (Dgood σ)]) (fun s => s.2.2.1) ((fun k => (mk σ.ws γ.g k).isSome), none, cnt2, [], .slice none 0 0) (coll_start _ _) (Sub.cons rfl (Sub.cons rfl (Sub.cons rfl Sub.nil))) (List.Perm.refl _) ?_
 intro s hs
 obtain ⟨left, cur, cnt, l, vl⟩ := s
 dsimp only at hs ⊢
 have hcl := coll_len hs
 refine tR ?_
 refine At.next (i := 3) rfl rfl rfl (fun hl => ?_) (fun x v cn hl hf hcn => ?_)
 skip
 ·refine tV (Val.extract rfl rfl) rfl (tE (At.seq (At.condF rfl (At.exitC (At.thenX (At.thenX (At.blkX (At.thenN (At.seq (At.iterEnd 3 rfl ?_))))))))))
  simp only [sc0, scS]
  refine At.region (tM rfl rfl (At.call1 0 rfl (fun w hw hr => sort_u _ _ w hr (by omega)) Tryz.call95 rfl rfl ?_))
  simp only [sc0, scS]
  refine tE (tR (tM rfl rfl (tA rfl rfl (tE (At.retC (At.ret1 (.inl rfl) rfl rfl rfl (fun w hw => ?_)))))))
  rw [coll_end hs hl] at hw
  exact ⟨_, rfl, retRK (F := []) hw⟩
 ·simp only [sc0, scS]
  refine tV (Val.extract rfl rfl) rfl (tE (At.seq (At.condT rfl (At.skipC (At.thenN (At.block (tR (tV (Val.entry (i := 3) rfl rfl) rfl (tV (Val.extract rfl rfl) rfl (tA rfl rfl (tE (At.region (tM rfl rfl (tM rfl rfl (At.buildSl (fun a ha => by simp only [List.map_toArray, List.map_cons, List.map_nil, ha.eval (x := (.tmp 15)) rfl]; try rfl) (bs_63_1 _ ) rfl (fun b3 => (At.appendI1 (i := 1) (j := 0) (by_ := 8) Tryz.underlying63 info_3 rfl rfl rfl rfl rfl rfl rfl rfl (by omega) (by omega) rfl (fun v4 => ?_))))))))))))))))))
  simp only [sc0, scS]
  refine At.drop 0 ?_
  simp only [ec0, ecS]
  refine tA rfl rfl (At.nil (At.blkN (At.thenN ?_)))
  exact At.again ((fun q => left q && q != x), some (x, v), cn, l ++ [x], v4) (coll_step hs hl hf) (show cn < cnt by omega) (Sub.cons rfl (Sub.cons rfl (Sub.cons rfl Sub.nil))) (List.Perm.refl _)
end Go.Proofs.YtfchinibjhcejaaGreatDoor
namespace Go.Proofs.YtfchinibjhcejaaGreatDoor
open Go Go.Wk
def pickK (ws : List Wd) (pk : Nat → Nat → BitVec 64) : Nat → List (BitVec 64)
  | 0 => olds ws
  | K + 1 => match (dk ws)[K]? with | some k => (pickK ws pk K).set k (pk K k) | none => pickK ws pk K
def picked (ws : List Wd) (pk : Nat → Nat → BitVec 64) : List (BitVec 64) := pickK ws pk (dk ws).length
theorem pickK_length (ws : List Wd) (pk : Nat → Nat → BitVec 64) : ∀ K, (pickK ws pk K).length = ws.length
  | 0 => olds_length ws
  | K + 1 => by unfold pickK; split <;> simp [pickK_length ws pk K]
theorem pickK_succ {ws : List Wd} {pk : Nat → Nat → BitVec 64} {K k : Nat} (h : (dk ws)[K]? = some k) : pickK ws pk (K + 1) = (pickK ws pk K).set k (pk K k) := by
  conv => lhs; unfold pickK
  rw [h]
def pkV (ws : List Wd) (K k : Nat) : BitVec 64 := match ws[k]? with | some w => nowW w | none => 0
theorem pkV_at {ws : List Wd} {K k : Nat} {w : Wd} (h : ws[k]? = some w) : pkV ws K k = nowW w := by unfold pkV; rw [h]
theorem viewCl_k (p : Nat) (γ : Gh) (σ : Ds) (k : Nat) (wd : Wd) (a b : Int) (w : World) (hk : σ.ws[k]? = some wd) (hn : wd.news ≠ []) (hd : (Dev p γ σ).holds w) :
    Upd Tryz.prog 54 [.int .i64 a, .int .i64 b, .pointer (some ⟨(γ.g k).1, 0, none⟩)] (Dev p γ σ) (b64 (nowW wd)) (Dev p γ σ) w := by
 refine enterV hd Tryz.func54 rfl Tryz.ntmps54 rfl ?_
 unfold devL
 have hgd := Dev.good hd
 have hst := hgd.steps
 have hwd := hgd.word wd (List.mem_of_getElem? hk)
 have hpos := List.length_pos_iff.2 hn
 simp only [envOf]
 refine tR (tA rfl rfl (tE (At.seq (At.dbtSome 3 rfl hk hn (fun b o c hv => (At.quiet rfl (by decide +kernel) (qM rfl rfl (qV (Val.nilCheck rfl) rfl (qV (Val.field 0 rfl fo_115_0 rfl) rfl (qV (Val.loadDbt (i := 3) Tryz.isAgg98 rfl rfl hk hn rfl) rfl (qM rfl rfl (qV (Val.nilCheck rfl) rfl (qV (Val.field 0 rfl fo_115_0 rfl) rfl (qV (Val.loadDbt (i := 3) Tryz.isAgg98 rfl rfl hk hn rfl) rfl (qV (Val.lenDbt (i := 3) rfl hk hn Tryz.underlying98 rfl) rfl (qV (Val.subI rfl rfl (by omega) (by omega)) rfl ?_))))))))))))))))
 rw [hv]
 refine qV (Val.indexSl (o + (wd.news.length - 1)) (by omega) Tryz.underlying98 Tryz.sizeOf43 rfl rfl (by omega) (by omega)) rfl (qV (Val.loadNews (i := 3) Tryz.isAgg43 rfl rfl hk hn hv rfl (now_last hn (y := nowW wd) rfl)) rfl (qV (Val.assign rfl) rfl (QAt.fin (At.thenN (At.retC (At.ret1 (.inl rfl) rfl rfl rfl (fun w hw => ?_)))))))
 exact ⟨rfl, retK (F := []) hw⟩
end Go.Proofs.YtfchinibjhcejaaGreatDoor
namespace Go.Proofs.YtfchinibjhcejaaGreatDoor
open Go Go.Wk
theorem bytes_k (p : Nat) (γ : Gh) (σ : Ds) (fid : FuncId) (caps : List Value) (pk : Nat → Nat → BitVec 64) (w : World) (hcall : ∀ args w, (callFunc fid args).run Tryz.prog w = .ok (.enter fid args) w) (hp : ∀ w', Mod (feet [Dev p γ σ]) w w' → (Dev p γ σ).holds w' → ∀ (K k : Nat) (wd : Wd), (dk σ.ws)[K]? = some k → σ.ws[k]? = some wd → wd.news ≠ [] → Upd Tryz.prog fid ([.int .i64 (K : Int), .int .i64 (8 * (k : Int)), .pointer (some ⟨(γ.g k).1, 0, none⟩)] ++ caps) (Dev p γ σ) (b64 (pk K k)) (Dev p γ σ) w') (hd : (Dev p γ σ).holds w) :
    RowK Tryz.prog 53 [.pointer (some ⟨p, 0, none⟩), .func (.func fid) #[] caps.toArray] (Dev p γ σ) 5 1 (wbytes (picked σ.ws pk)).length ((wbytes (picked σ.ws pk)).map bv) w := by
 refine enterV hd Tryz.func53 rfl Tryz.ntmps53 rfl ?_
 unfold devL
 have hgd := Dev.good hd
 have hln := hgd.len
 have hps := hgd.pos
 have hdl : (dk σ.ws).length ≤ σ.ws.length := Nat.le_trans (List.length_filter_le _ _) (by rw [List.length_range]; exact Nat.le_refl _)
 simp only [envOf]
 refine tR (tA rfl rfl (tE (tR (tM rfl rfl (At.callKS (devL p γ σ) rfl (fun w hw hr => size_k _ _ _ w hr) Tryz.call81 rfl rfl ?_)))))
 rw [show 8 * (σ.ws.length : Int) = (((8 * σ.ws.length : Nat)) : Int) from by omega]
 refine At.makeRowB (n := (8 * σ.ws.length)) Tryz.underlying29 info_5 rfl rfl rfl rfl rfl (by omega) rfl (fun v1 => ?_)
 rw [← wbytes_zero]
 refine At.rowSome (i := 0) rfl (by rw [wbytes_length, List.length_replicate]; omega) (fun b2 c3 hv4 => ?_)
 subst hv4
 refine At.rowCapD (i := 0) rfl (fun hcap => ?_)
 rw [wbytes_length, List.length_replicate] at hcap ⊢
 refine At.sink5 (tA rfl rfl (tE (At.seq (tR (tM rfl rfl (tV (Val.nilCheck rfl) rfl (tV (Val.field 0 rfl fo_111_0 rfl) rfl (tV (Val.load (i := 0) Tryz.isAgg98 rfl rfl rfl) rfl (tV (Val.lenRow (i := 1) Tryz.underlying98 rfl rfl) rfl (tM rfl rfl (tE (At.block ?_))))))))))))
 skip
 refine At.loop (σ := Nat) (fun k => k ≤ σ.ws.length) (fun k => [(0, .pointer (some ⟨p, 0, none⟩)), (1, .func (.func fid) #[] caps.toArray), (5, (.slice (some ⟨b2, 0, none⟩) ((8 * σ.ws.length)) c3)), (16, γ.vo), (17, .int .i64 (σ.ws.length : Int)), (18, .int .i64 (k : Int))]) (fun k => [blk p tDv [γ.vo, .map (some γ.mb), .int .i64 (σ.steps : Int), .bool σ.armed, .int .i64 (σ.left : Int)], wrow tW γ.vo (olds σ.ws), mapR γ.mb (mk σ.ws γ.g), fam (dI σ.ws γ.g), factR (Dgood σ), brow 5 (.slice (some ⟨b2, 0, none⟩) ((8 * σ.ws.length)) c3) (wbytes ((olds σ.ws).take k ++ List.replicate ((olds σ.ws).length - k) 0))]) (fun k => σ.ws.length - k) 0 (Nat.zero_le _) (Sub.cons rfl (Sub.cons rfl (Sub.cons rfl (Sub.cons rfl (Sub.cons (congrArg (fun z => some (Value.int IntKind.i64 z)) (by rw [olds_length])) (Sub.cons rfl Sub.nil)))))) (by rw [List.take_zero, List.nil_append, Nat.sub_zero, olds_length, brow, wbytes_length, List.length_replicate]) ?_
 intro k hs
 have hl1 : ((olds σ.ws).take k ++ List.replicate ((olds σ.ws).length - k) 0).length = σ.ws.length := by rw [List.length_append, List.length_take, List.length_replicate, olds_length]; omega
 refine tR (tV (Val.bin rfl rfl rfl) rfl (tE (At.seq ?_)))
 refine At.cond rfl (fun h5 => ?_) (fun h5 => ?_)
 ·try simp only [hasB, isSizeB, sB] at h5
  have hk0 : k < σ.ws.length := by omega
  obtain ⟨wd, hk⟩ : ∃ wd, σ.ws[k]? = some wd := ⟨_, List.getElem?_eq_getElem hk0⟩
  refine At.skipC (At.thenN (At.seq (At.block (tR (tM rfl rfl ?_)))))
  refine tV (Val.indexRow (i := 1) k (by omega) Tryz.underlying98 Tryz.sizeOf43 rfl rfl rfl (by omega) (by rw [olds_length]; omega)) rfl ?_
  refine tV (Val.loadRow (i := 1) Tryz.isAgg43 rfl rfl (by rw [List.getElem?_map, olds_at hk]; rfl)) rfl ?_
  refine tA rfl rfl (tA rfl rfl (tE (At.region (tM rfl rfl (tM rfl rfl (tV (Val.mulI rfl rfl (by omega) (by omega)) rfl (tV (Val.cutSl (8 * k) (8 * σ.ws.length) (8 * k) (8 * σ.ws.length - 8 * k) (c3 - 8 * k) Tryz.underlying29 Tryz.sizeOf5 rfl ⟨_, _, rfl, by omega, by omega⟩ rfl (by omega) hcap (by rw [if_neg (by omega)]; omega) rfl rfl) rfl (tM rfl rfl ?_))))))))
  refine At.call1 5 rfl (fun w hw hr => putW_r b2 (8 * k) (8 * σ.ws.length - 8 * k) (c3 - 8 * k) (8 * σ.ws.length) c3 (wbytes ((olds σ.ws).take k ++ List.replicate ((olds σ.ws).length - k) 0)) (wd.old) w (by omega) (by rw [wbytes_length, hl1]; omega) hr) Tryz.call94 rfl rfl ?_
  simp only [sc0, scS]
  refine At.nil (At.blkN (At.thenN (At.region ?_)))
  first | refine tV (Val.addI rfl rfl (by omega) (by omega)) rfl ?_ | refine tV (Val.bin rfl rfl rfl) rfl ?_
  refine tM rfl rfl (tE ?_)
  exact At.again (k + 1) (show k + 1 ≤ _ by omega) (by omega) (Sub.cons rfl (Sub.cons rfl (Sub.cons rfl (Sub.cons rfl (Sub.cons rfl (Sub.cons (congrArg (fun z => some (Value.int IntKind.i64 z)) (by omega)) Sub.nil)))))) (by rw [put8_set _ (by omega), take_set_zero (olds_at hk)])
 ·try simp only [hasB, isSizeB, sB] at h5
  obtain rfl : k = σ.ws.length := by omega
  refine At.exitC (At.thenX (At.thenX (At.blkX (At.thenN (At.seq (tR (tM rfl rfl (At.callRKS (devL p γ σ) rfl (fun w hw hr => places_k p γ σ w hr) Tryz.call57 rfl rfl (fun v6 => (At.sink5 (tV (Val.lenRow (i := 5) Tryz.underlying63 rfl rfl) rfl (tM rfl rfl (tE (At.block ?_))))))))))))))
  skip
  refine At.loop (σ := Nat) (fun K => K ≤ (dk σ.ws).length) (fun K => [(0, .pointer (some ⟨p, 0, none⟩)), (1, .func (.func fid) #[] caps.toArray), (5, (.slice (some ⟨b2, 0, none⟩) ((8 * σ.ws.length)) c3)), (31, v6), (32, .int .i64 ((dk σ.ws).length : Int)), (33, .int .i64 (K : Int))]) (fun K => [blk p tDv [γ.vo, .map (some γ.mb), .int .i64 (σ.steps : Int), .bool σ.armed, .int .i64 (σ.left : Int)], wrow tW γ.vo (olds σ.ws), mapR γ.mb (mk σ.ws γ.g), fam (dI σ.ws γ.g), factR (Dgood σ), rowR v6 3 1 (dkeys σ.ws).length ((dkeys σ.ws).map (Value.int .i64)), brow 5 (.slice (some ⟨b2, 0, none⟩) ((8 * σ.ws.length)) c3) (wbytes (pickK σ.ws pk K))]) (fun K => (dk σ.ws).length - K) 0 (Nat.zero_le _) (Sub.cons rfl (Sub.cons rfl (Sub.cons rfl (Sub.cons rfl (Sub.cons (congrArg (fun z => some (Value.int IntKind.i64 z)) (by rw [dkeys, List.length_map])) (Sub.cons rfl Sub.nil)))))) (by rw [List.take_of_length_le (by rw [olds_length]; exact Nat.le_refl _), olds_length, Nat.sub_self, List.replicate_zero, List.append_nil]; exact List.Perm.refl _) ?_
  intro K hs
  refine tR (tV (Val.bin rfl rfl rfl) rfl (tE (At.seq ?_)))
  refine At.cond rfl (fun h7 => ?_) (fun h7 => ?_)
  ·try simp only [hasB, isSizeB, sB] at h7
   have hK : K < (dk σ.ws).length := by omega
   obtain ⟨k, hkK⟩ : ∃ k, (dk σ.ws)[K]? = some k := ⟨_, List.getElem?_eq_getElem hK⟩
   obtain ⟨wd, hk, hn⟩ := mem_dk.1 (List.mem_of_getElem? hkK)
   have hk0 := (List.getElem?_eq_some_iff.1 hk).1
   refine At.skipC (At.thenN (At.seq (At.block (tR (tM rfl rfl ?_)))))
   refine tV (Val.indexRow (i := 5) K (by omega) Tryz.underlying63 Tryz.sizeOf3 rfl rfl rfl (by omega) (by rw [dkeys, List.length_map]; omega)) rfl ?_
   refine tV (Val.loadRow (i := 5) (u := .int .i64 (8 * (k : Int))) Tryz.isAgg3 rfl rfl (by rw [List.getElem?_map, dkeys, List.getElem?_map, hkK]; rfl)) rfl ?_
   refine tA rfl rfl (tA rfl rfl (tE (At.tail 13 rfl (by decide +kernel) ?_)))
   simp only [List.take_succ_cons, List.take_zero, List.drop_succ_cons, List.drop_zero]
   refine qM rfl rfl (qM rfl rfl (qV (Val.cutSl (8 * k) (8 * σ.ws.length) (8 * k) (8 * σ.ws.length - 8 * k) (c3 - 8 * k) Tryz.underlying29 Tryz.sizeOf5 rfl ⟨_, _, rfl, by omega, by omega⟩ rfl (by omega) hcap (by rw [if_neg (by omega)]; omega) rfl rfl) rfl (qM rfl rfl (qM rfl rfl (qM rfl rfl (qM rfl rfl (qV (Val.nilCheck rfl) rfl (qV (Val.field 1 rfl fo_111_1 rfl) rfl (qV (Val.load (i := 0) Tryz.isAgg109 rfl rfl rfl) rfl (qM rfl rfl (qV (Val.look (i := 2) Tryz.underlying109 Tryz.underlying3 Tryz.zeroValue113 rfl rfl rfl) rfl ?_)))))))))))
   rw [mk_at, mkN_some hk hn]
   refine QAt.callVKS (devL p γ σ) (caps := caps) rfl rfl (fun w hw hr => hp w hw.mod hr K k wd hkK hk hn) hcall rfl rfl (QAt.fin ?_)
   refine At.call1 6 rfl (fun w hw hr => putW_r b2 (8 * k) (8 * σ.ws.length - 8 * k) (c3 - 8 * k) (8 * σ.ws.length) c3 (wbytes (pickK σ.ws pk K)) (pk K k) w (by omega) (by rw [wbytes_length, pickK_length]; omega) hr) Tryz.call94 rfl rfl ?_
   simp only [sc0, scS]
   refine At.nil (At.blkN (At.thenN (At.region ?_)))
   first | refine tV (Val.addI rfl rfl (by omega) (by omega)) rfl ?_ | refine tV (Val.bin rfl rfl rfl) rfl ?_
   refine tM rfl rfl (tE ?_)
   exact At.again (K + 1) (show K + 1 ≤ _ by omega) (by omega) (Sub.cons rfl (Sub.cons rfl (Sub.cons rfl (Sub.cons rfl (Sub.cons rfl (Sub.cons (congrArg (fun z => some (Value.int IntKind.i64 z)) (by omega)) Sub.nil)))))) (by rw [put8_set _ (by rw [pickK_length]; omega), pickK_succ hkK])
  ·try simp only [hasB, isSizeB, sB] at h7
   obtain rfl : K = (dk σ.ws).length := by omega
   refine At.exitC (At.thenX (At.thenX (At.blkX (At.thenN (tR (tM rfl rfl (tA rfl rfl (tE (At.retC (At.ret1 (.inl rfl) rfl rfl rfl (fun w hw => ?_)))))))))))
   exact ⟨_, rfl, retRK (F := []) ((hw.drop ((List.Sublist.refl _).cons _ |>.cons_cons _ |>.cons_cons _ |>.cons_cons _ |>.cons_cons _ |>.cons_cons _)).perm (List.perm_middle (l₁ := [_, _, _, _, _]) (l₂ := [])))⟩
def viewWs (ws : List Wd) : List (BitVec 64) := ws.map nowW
theorem pickK_at {ws : List Wd} {pk : Nat → Nat → BitVec 64} {k : Nat} {w : Wd} (hk : ws[k]? = some w) : ∀ K, (∀ J, J < K → (dk ws)[J]? ≠ some k) → (pickK ws pk K)[k]? = some w.old
  | 0, _ => olds_at hk
  | K + 1, h => by
    cases hj : (dk ws)[K]? with
    | none => unfold pickK; rw [hj]; exact pickK_at hk K (fun J hJ => h J (by omega))
    | some j =>
      rw [pickK_succ hj]
      have hne : j ≠ k := fun e => h K (by omega) (e ▸ hj)
      rw [List.getElem?_set_ne hne]
      exact pickK_at hk K (fun J hJ => h J (by omega))
theorem dk_inj {ws : List Wd} {I J k : Nat} (h : (dk ws)[I]? = some k) (h' : (dk ws)[J]? = some k) : I = J := by
  have hr := dk_rising ws
  have h1 := List.getElem?_eq_some_iff.1 h
  have h2 := List.getElem?_eq_some_iff.1 h'
  rcases Nat.lt_trichotomy I J with hlt | hlt | hlt
  · have := List.pairwise_iff_getElem.1 hr I J h1.1 h2.1 hlt; rw [h1.2, h2.2] at this; omega
  · exact hlt
  · have := List.pairwise_iff_getElem.1 hr J I h2.1 h1.1 hlt; rw [h1.2, h2.2] at this; omega
theorem pickK_hit {ws : List Wd} {pk : Nat → Nat → BitVec 64} {K k : Nat} (hK : (dk ws)[K]? = some k) : ∀ n, K < n → n ≤ (dk ws).length → (pickK ws pk n)[k]? = some (pk K k)
  | 0, h, _ => by omega
  | n + 1, h, hn => by
    obtain ⟨j, hj⟩ : ∃ j, (dk ws)[n]? = some j := ⟨_, List.getElem?_eq_getElem (by omega)⟩
    rw [pickK_succ hj]
    by_cases e : n = K
    · subst e
      have : j = k := Option.some.inj (hj.symm.trans hK)
      subst this
      obtain ⟨w, hw, _⟩ := mem_dk.1 (List.mem_of_getElem? hj)
      rw [List.getElem?_set_self (by rw [pickK_length]; exact (List.getElem?_eq_some_iff.1 hw).1)]
    · have hne : j ≠ k := fun e2 => e (dk_inj (e2 ▸ hj) hK)
      rw [List.getElem?_set_ne hne]
      exact pickK_hit hK n (by omega) (by omega)
theorem picked_old {ws : List Wd} {pk : Nat → Nat → BitVec 64} {k : Nat} {w : Wd} (hk : ws[k]? = some w) (hn : w.news = []) : (picked ws pk)[k]? = some w.old :=
  pickK_at hk _ fun J _ h => by
    obtain ⟨u, hu, hun⟩ := mem_dk.1 (List.mem_of_getElem? h)
    rw [hk] at hu; cases hu; exact hun hn
theorem picked_new {ws : List Wd} {pk : Nat → Nat → BitVec 64} {K k : Nat} (hK : (dk ws)[K]? = some k) : (picked ws pk)[k]? = some (pk K k) := pickK_hit hK _ (List.getElem?_eq_some_iff.1 hK).1 (Nat.le_refl _)
theorem picked_length (ws : List Wd) (pk : Nat → Nat → BitVec 64) : (picked ws pk).length = ws.length := pickK_length ws pk _
theorem dk_of {ws : List Wd} {k : Nat} {w : Wd} (hk : ws[k]? = some w) (hn : w.news ≠ []) : ∃ K : Nat, (dk ws)[K]? = some k := List.getElem?_of_mem (mem_dk.2 ⟨w, hk, hn⟩)
theorem picked_view (ws : List Wd) : picked ws (pkV ws) = viewWs ws := by
  apply List.ext_getElem?
  intro k
  unfold viewWs
  rw [List.getElem?_map]
  cases hk : ws[k]? with
  | none => rw [List.getElem?_eq_none (by rw [picked_length]; exact List.getElem?_eq_none_iff.1 hk)]; rfl
  | some w =>
    by_cases hn : w.news = []
    · rw [picked_old hk hn]; show _ = some (nowW w); rw [now_old hn]
    · obtain ⟨K, hK⟩ := dk_of hk hn
      rw [picked_new hK, pkV_at hk]; rfl
theorem view_k (p : Nat) (γ : Gh) (σ : Ds) (w : World) (hd : (Dev p γ σ).holds w) :
    RowK Tryz.prog 26 [.pointer (some ⟨p, 0, none⟩)] (Dev p γ σ) 5 1 (wbytes (viewWs σ.ws)).length ((wbytes (viewWs σ.ws)).map bv) w := by
 refine enterVc hd Tryz.func26 rfl Tryz.ntmps26 rfl ?_
 have hgd := Dev.good hd
 simp only [envOf]
 refine tR (tA rfl rfl (tE (tR (tM rfl rfl (At.callRK 0 rfl (fun w hw hr => bytes_k p γ σ 54 [] (pkV σ.ws) w Tryz.call54 (fun w' _ hd' K k wd hK hk hn => by rw [pkV_at hk]; exact viewCl_k p γ σ k wd _ _ w' hk hn hd') hr) Tryz.call53 rfl rfl (fun v1 => (tA rfl rfl (tE (At.retC (At.ret1 (.inl rfl) rfl rfl rfl (fun w hw => ?_)))))))))))
 rw [picked_view] at hw
 exact ⟨_, rfl, hw⟩
end Go.Proofs.YtfchinibjhcejaaGreatDoor
namespace Go.Proofs.YtfchinibjhcejaaGreatDoor
open Go Go.Wk
def wordI (a : Int) (N : Nat) : Nat := (a % (N : Int)).toNat
def noteD (N : Nat) (σ : Ds) (c : Nt) : Ds :=
  if c.1 = 1 then (match σ.ws[wordI c.2.1 N]? with | some w => setD (stepD σ) (wordI c.2.1 N) (pushW w c.2.2) | none => σ)
  else if c.1 = 2 then flushK (stepD σ) (8 * (wordI c.2.1 N / 8)) 8
  else fenceD (stepD σ)
def run (N : Nat) (σ : Ds) (L : List Nt) : Ds := L.foldl (noteD N) σ
theorem dead_of {σ : Ds} (h : σ.armed = false) : deadB σ = false := by unfold deadB; rw [h]; rfl
def NewDevB (P : Program) (f : FuncId) (vs : List Value) (σ : Ds) (w : World) : Prop := Calls P f vs.toArray w fun e w' => ∃ p γ, e = .returned (.tuple #[.pointer (some ⟨p, 0, none⟩), .bool true]) ∧ Rep w (feet []) [Dev p γ σ] w'
theorem At.callNB {P : Program} {Γ : Ctx} {E : Env} {H : List Res} {ops : Array Oper} {Q : Exit → Act → World → Prop} {rest : List Oper} {d : Nat} {ty : TypeId} {pos : String} {after : Array Edge} {σ : Ds} {f : FuncId} {l : List Operand} {vs : List Value} {at_ : Array TypeId} (h : ∀ w, Rep Γ.w0 Γ.S H w → NewDevB P f vs σ w) (hc : ∀ args w, (callFunc f args).run P w = .ok (.enter f args) w) (hv : evs E l = some vs) (hn : Nat.blt d Γ.n = true)
    (c : ∀ p γ, At Γ ((d, .tuple #[.pointer (some ⟨p, 0, none⟩), .bool true]) :: E) (Dev p γ σ :: H) (wpList P ops Q rest)) :
    At Γ E H (wpList P ops Q ({ dst := some d, op := .call { callee := .value (.func f), args := l.toArray, argTypes := at_ }, type := ty, pos, after, guard := none } :: rest)) :=
  At.call hc hv hn fun w hw => (h w hw).mono fun e w' ⟨p, γ, he, hr⟩ => ⟨_, _, he, by
    have := Rep.frame (H0 := []) (F := H) (by simpa using hw) hr
    simpa using this, c p γ⟩
end Go.Proofs.YtfchinibjhcejaaGreatDoor
namespace Go.Proofs.YtfchinibjhcejaaGreatDoor
open Go Go.Wk
theorem flushK_at {σ : Ds} {f k : Nat} {w : Wd} (h : σ.ws[k]? = some w) : ∀ j, ∃ m, (flushK σ f j).ws[k]? = some { w with mark := m } ∧ (f ≤ k → k < f + j → m = w.news.length) ∧ (¬ (f ≤ k ∧ k < f + j) → m = w.mark)
  | 0 => ⟨w.mark, h, fun h1 h2 => by omega, fun _ => rfl⟩
  | j + 1 => by
    obtain ⟨m, h1, h2, h3⟩ := flushK_at h j
    by_cases e : f + j = k
    · subst e
      rw [flushK_succ h1]
      exact ⟨w.news.length, by unfold setD; simp only; rw [List.getElem?_set_self (List.getElem?_eq_some_iff.1 h1).1]; rfl, fun _ _ => rfl, fun hn => absurd ⟨by omega, by omega⟩ hn⟩
    · cases hq : (flushK σ f j).ws[f + j]? with
      | none =>
        unfold flushK; rw [hq]
        exact ⟨m, h1, fun a b => h2 a (by omega), fun hn => h3 (fun ⟨a, b⟩ => hn ⟨a, by omega⟩)⟩
      | some u =>
        rw [flushK_succ hq]
        exact ⟨m, by unfold setD; simp only; rw [List.getElem?_set_ne e]; exact h1, fun a b => h2 a (by omega), fun hn => h3 (fun ⟨a, b⟩ => hn ⟨a, by omega⟩)⟩
theorem fenceD_at {σ : Ds} {k : Nat} {w : Wd} (h : σ.ws[k]? = some w) : (fenceD σ).ws[k]? = some (fenceW w) := by unfold fenceD; simp [h]
theorem setD_at {σ : Ds} {k j : Nat} {w u : Wd} (h : σ.ws[j]? = some w) (hne : k ≠ j) : (setD σ k u).ws[j]? = some w := by unfold setD; simp only; rw [List.getElem?_set_ne hne]; exact h
theorem setD_self {σ : Ds} {k : Nat} {w u : Wd} (h : σ.ws[k]? = some w) : (setD σ k u).ws[k]? = some u := by unfold setD; simp only; rw [List.getElem?_set_self (List.getElem?_eq_some_iff.1 h).1]
theorem take_succ_of_get {α : Type} {l : List α} {k : Nat} {x : α} (h : l[k]? = some x) : l.take (k + 1) = l.take k ++ [x] := by rw [List.take_add_one, h]; rfl
end Go.Proofs.YtfchinibjhcejaaGreatDoor
namespace Go.Proofs.YtfchinibjhcejaaGreatDoor
open Go Go.Wk
abbrev Put := Nat × BitVec 64 × Nat
def pj (j : Nat) (l : List Put) : List (BitVec 64 × Nat) := (l.filter fun c => decide (c.1 = j)).map Prod.snd
theorem pj_yes {j : Nat} {l : List Put} {c : Put} (h : c.1 = j) : pj j (l ++ [c]) = pj j l ++ [c.2] := by
  unfold pj; rw [List.filter_append, List.map_append, List.filter_cons_of_pos (p := fun c : Put => decide (c.1 = j)) (decide_eq_true h), List.filter_nil]; rfl
theorem pj_no {j : Nat} {l : List Put} {c : Put} (h : c.1 ≠ j) : pj j (l ++ [c]) = pj j l := by
  unfold pj; rw [List.filter_append, List.map_append, List.filter_cons_of_neg (by rw [decide_eq_false h]; simp), List.filter_nil]; exact List.append_nil _
def lastF (fl : List Nat) : Nat := fl.getLast?.getD 0
def SimW (t f : Nat) (P : List (BitVec 64 × Nat)) (v0 : BitVec 64) (w : Wd) : Prop :=
  ∃ A B C, P = A ++ (B ++ C) ∧ (∀ x ∈ A, x.2 < t) ∧ (∀ x ∈ B, t ≤ x.2 ∧ x.2 < f) ∧ (∀ x ∈ C, t ≤ x.2 ∧ f ≤ x.2) ∧ w.old = (A.getLast?.map Prod.fst).getD v0 ∧ w.news = (B ++ C).map Prod.fst ∧ w.mark = B.length
theorem simW_push {t f T : Nat} {P : List (BitVec 64 × Nat)} {v0 x : BitVec 64} {w : Wd} (h : SimW t f P v0 w) (h1 : t ≤ T) (h2 : f ≤ T) : SimW t f (P ++ [(x, T)]) v0 (pushW w x) := by
  obtain ⟨A, B, C, rfl, hA, hB, hC, ho, hn, hm⟩ := h
  refine ⟨A, B, C ++ [(x, T)], by simp, hA, hB, fun y hy => ?_, ho, ?_, hm⟩
  · rcases List.mem_append.1 hy with hy | hy
    · exact hC y hy
    · rw [List.mem_singleton.1 hy]; exact ⟨h1, h2⟩
  · show w.news ++ [x] = _
    rw [hn]; simp
structure Sim (σ : Ds) (ρ : Rs) : Prop where
  len : σ.ws.length = 8 * ρ.ls.length
  now : σ.steps = ρ.now
  left : ρ.left = if σ.armed = true then (σ.left : Int) else -1
  fen : ρ.fenced ≤ ρ.now
  line : ∀ (k : Nat) (l : Rl), ρ.ls[k]? = some l → setF ρ.fenced l.fl ≤ lastF l.fl ∧ lastF l.fl ≤ ρ.now ∧ (∀ c ∈ l.puts, c.2.2 ≤ ρ.now) ∧ (∀ t ∈ l.fl, t ≤ ρ.now) ∧ l.first.length = 8 ∧
    ∀ j, j < 8 → ∃ v0 w, l.first[j]? = some v0 ∧ σ.ws[8 * k + j]? = some w ∧ SimW (setF ρ.fenced l.fl) (lastF l.fl) (pj j l.puts) v0 w
theorem Sim.dead {σ : Ds} {ρ : Rs} (h : Sim σ ρ) : deadB σ = decide (ρ.left = 0) := by
  unfold deadB
  rw [h.left]
  cases σ.armed with
  | true => simp
  | false => simp
theorem Sim.alive {σ : Ds} {ρ : Rs} (h : Sim σ ρ) (hd : deadB σ = false) : ρ.left ≠ 0 := by rw [h.dead] at hd; exact of_decide_eq_false hd
theorem Sim.has {σ : Ds} {ρ : Rs} (h : Sim σ ρ) (a n : Int) : hasR ρ a n = hasB σ a n := by unfold hasR hasB; rw [h.len]; congr 1; rw [eq_iff_iff]; omega
theorem Sim.stepLeft {σ : Ds} {ρ : Rs} (h : Sim σ ρ) (hd : deadB σ = false) : (stepR ρ).left = if (stepD σ).armed = true then ((stepD σ).left : Int) else -1 := by
  have h0 := h.alive hd
  have hl := h.left
  unfold stepR stepD
  simp only
  cases ha : σ.armed with
  | true =>
    rw [ha] at hl
    simp only [if_true] at hl ⊢
    split <;> omega
  | false =>
    rw [ha] at hl
    simp only [Bool.false_eq_true, if_false] at hl ⊢
    rw [hl]; rfl
theorem Sim.at {σ : Ds} {ρ : Rs} (h : Sim σ ρ) {K : Nat} (hK : K < σ.ws.length) : ∃ l v0 w, ρ.ls[K / 8]? = some l ∧ l.first[K % 8]? = some v0 ∧ σ.ws[K]? = some w ∧ SimW (setF ρ.fenced l.fl) (lastF l.fl) (pj (K % 8) l.puts) v0 w := by
  have hl := h.len
  obtain ⟨l, hk⟩ : ∃ l, ρ.ls[K / 8]? = some l := ⟨_, List.getElem?_eq_getElem (by omega)⟩
  obtain ⟨_, _, _, _, _, h6⟩ := h.line _ l hk
  obtain ⟨v0, w, h1, h2, h3⟩ := h6 (K % 8) (by omega)
  exact ⟨l, v0, w, hk, h1, by rwa [show 8 * (K / 8) + K % 8 = K by omega] at h2, h3⟩
theorem Sim.store {σ : Ds} {ρ : Rs} {k j : Nat} {l : Rl} {w : Wd} {x : BitVec 64} (h : Sim σ ρ) (hd : deadB σ = false) (hk : ρ.ls[k]? = some l) (hj : j < 8) (hw : σ.ws[8 * k + j]? = some w) : Sim (setD (stepD σ) (8 * k + j) (pushW w x)) (storeL ρ k j l x) := by
  refine ⟨?_, by show σ.steps + 1 = ρ.now + 1; rw [h.now], h.stepLeft hd, Nat.le_succ_of_le h.fen, fun i m hm => ?_⟩
  · show (List.set _ _ _).length = 8 * (List.set _ _ _).length
    rw [List.length_set, List.length_set]; exact h.len
  · have hm' : (ρ.ls.set k { l with puts := l.puts ++ [(j, x, ρ.now + 1)] })[i]? = some m := hm
    by_cases e : k = i
    · subst e
      rw [List.getElem?_set_self (List.getElem?_eq_some_iff.1 hk).1] at hm'
      obtain rfl := Option.some.inj hm'
      obtain ⟨h1, h2, h3, h4, h5, h6⟩ := h.line k l hk
      refine ⟨h1, Nat.le_succ_of_le h2, fun c hc => ?_, fun t ht => Nat.le_succ_of_le (h4 t ht), h5, fun j' hj' => ?_⟩
      · rcases List.mem_append.1 hc with hc | hc
        · exact Nat.le_succ_of_le (h3 c hc)
        · rw [List.mem_singleton.1 hc]; exact Nat.le_refl _
      · obtain ⟨v0, u, g1, g2, g3⟩ := h6 j' hj'
        by_cases ej : j = j'
        · subst ej
          rw [hw] at g2
          obtain rfl := Option.some.inj g2
          exact ⟨v0, _, g1, setD_self (σ := stepD σ) hw, by show SimW _ _ (pj j (l.puts ++ [(j, x, ρ.now + 1)])) v0 _; rw [pj_yes (c := (j, x, ρ.now + 1)) rfl]; exact simW_push g3 (show setF ρ.fenced l.fl ≤ ρ.now + 1 by omega) (Nat.le_succ_of_le h2)⟩
        · exact ⟨v0, u, g1, setD_at (σ := stepD σ) g2 (by omega), by show SimW _ _ (pj j' (l.puts ++ [(j, x, ρ.now + 1)])) v0 _; rw [pj_no (c := (j, x, ρ.now + 1)) ej]; exact g3⟩
    · rw [List.getElem?_set_ne e] at hm'
      obtain ⟨h1, h2, h3, h4, h5, h6⟩ := h.line i m hm'
      refine ⟨h1, Nat.le_succ_of_le h2, fun c hc => Nat.le_succ_of_le (h3 c hc), fun t ht => Nat.le_succ_of_le (h4 t ht), h5, fun j' hj' => ?_⟩
      obtain ⟨v0, u, g1, g2, g3⟩ := h6 j' hj'
      exact ⟨v0, u, g1, setD_at (σ := stepD σ) g2 (by omega), g3⟩
end Go.Proofs.YtfchinibjhcejaaGreatDoor
namespace Go.Proofs.YtfchinibjhcejaaGreatDoor
open Go Go.Wk
theorem At.idxI' {P : Program} {Γ : Ctx} {E : Env} {H : List Res} {ops : Array Oper} {Q : Exit → Act → World → Prop} {rest : List Oper} {d : Nat} {ty : TypeId} {pos : String} {after : Array Edge} {x y : Operand} {v : Value} {t el : Nat} {l : List Int} {k : IntKind} {j : Int} {g : Option (Nat × Bool)} (h : RdI Γ.w0 v l) (ho : Off v (l.map (Value.int .i64)) Γ.S) (hu : P.underlying t = some (.slice el)) (hs : ∀ w, (sizeOf el).run P w = .ok 1 w) (hx : ev E x = some v) (hy : ev E y = some (.int k j)) (h0 : 0 ≤ j) (h1 : j < l.length)
    (hg : g = none) (hn : Nat.blt d Γ.n = true)
    (c : ∀ b o q, l[j.toNat]? = some q → Γ.w0.cell? ⟨b, o, none⟩ = some (.int .i64 q) → ¬ Γ.S b → At Γ ((d, .pointer (some ⟨b, o, none⟩)) :: E) H (wpList P ops Q rest)) :
    At Γ E H (wpList P ops Q ({ dst := some d, op := .indexAddr t x y, type := ty, pos, after, guard := g } :: rest)) := by
  obtain ⟨b, o, cap, rfl, hc⟩ := h.at (j := j.toNat) (by omega)
  have hq : l[j.toNat]? = some (l[j.toNat]'(by omega)) := List.getElem?_eq_getElem _
  exact At.val (Val.indexSl _ rfl hu hs hx hy h0 h1) hg rfl hn (c b _ _ hq (by have := hc 0 _ (by rw [Nat.mul_one, Nat.add_zero, List.getElem?_map, hq]; rfl); rwa [Nat.add_zero] at this) (ho (fun e => by rw [List.map_eq_nil_iff] at e; subst e; simp at h1; omega) b _ _ _ _ rfl))
end Go.Proofs.YtfchinibjhcejaaGreatDoor
namespace Go.Proofs.YtfchinibjhcejaaGreatDoor
open Go Go.Wk
end Go.Proofs.YtfchinibjhcejaaGreatDoor
namespace Go.Proofs.YtfchinibjhcejaaGreatDoor
open Go Go.Wk
theorem wbytes_byte {xs : List (BitVec 64)} {k b : Nat} {x : BitVec 64} (h : xs[k]? = some x) (hb : b < 8) : (wbytes xs)[8 * k + b]? = some (UInt8.ofNat (x.toNat / 256 ^ b)) := by
  have := wbytes_take h
  have h2 : (((wbytes xs).drop (8 * k)).take 8)[b]? = (wbytes xs)[8 * k + b]? := by rw [List.getElem?_take, if_pos hb, List.getElem?_drop]
  rw [← h2, this]; exact le_get 8 _ b hb
theorem take_part {xs : List (BitVec 64)} {a c r m : Nat} {x : BitVec 64} (h : xs[(a + c) / 8]? = some x) (hr : r = (a + c) % 8) (hm : r + m ≤ 8) : ((wbytes xs).drop a).take (c + m) = ((wbytes xs).drop a).take c ++ ((le8 x).drop r).take m := by
  subst hr
  rw [List.take_add]
  congr 1
  rw [List.drop_drop]
  apply List.ext_getElem?
  intro i
  rw [List.getElem?_take, List.getElem?_take]
  split
  · rename_i hi
    rw [List.getElem?_drop, List.getElem?_drop, show a + c + i = 8 * ((a + c) / 8) + ((a + c) % 8 + i) by omega, wbytes_byte h (by omega)]
    exact (le_get 8 _ _ (by omega)).symm
  · rfl
theorem At.appendPart {P : Program} {Γ : Ctx} {E : Env} {H : List Res} {ops : Array Oper} {Q : Exit → Act → World → Prop} {rest : List Oper} {d : Nat} {ty : TypeId} {pos : String} {after : Array Edge} {x y : Operand} {v : Value} {i j t e by_ b U r m c : Nat} {ti : TypeInfo} {z : Value} {l : List UInt8} {w8 : List UInt8} (ht : P.underlying t = some (.slice e)) (hti : P.info? e = some ti) (hz : ti.zero = some z) (hsize : ti.size = 1) (hby : ti.bytes = by_) (hzs : z.cells.size = 1)
    (hx : ev E x = some v) (hy : ev E y = some (.slice (some ⟨b, r, none⟩) m c)) (hi : H[i]? = some (brow e v l)) (hj : H[j]? = some (blk b U (w8.map bv))) (hm : r + m ≤ w8.length) (h63 : (l.length + m) * by_ ≤ 140737488355328) (h64 : l.length + m ≤ 140737488355328) (hn : Nat.blt d Γ.n = true)
    (k : ∀ v', At Γ ((d, v') :: E) (H.set i (brow e v' (l ++ (w8.drop r).take m))) (wpList P ops Q rest)) :
    At Γ E H (wpList P ops Q ({ dst := some d, op := .call { callee := .builtin .append, args := #[x, y], argTypes := #[t, t] }, type := ty, pos, after, guard := none } :: rest)) :=
  At.append (i := i) (ys := ((w8.drop r).take m).map bv) ht hti hz hsize hby hzs rfl hx hy hi (by rw [List.length_map, List.length_take, List.length_drop]; omega) (fun w hw j' u hj' => by
      refine ((hw.blk hj).cell (r + j')).trans ?_
      rw [List.getElem?_map, List.getElem?_take] at hj'
      split at hj'
      · rw [List.getElem?_drop] at hj'; rw [List.getElem?_map]; exact hj'
      · cases hj') (bv_one _) h63 h64 hn fun v' => by
    have := k v'
    have e1 : ((w8.drop r).take m).length = m := by rw [List.length_take, List.length_drop]; omega
    simpa only [brow, List.map_append, List.length_append, e1] using this
theorem read_s (p : Nat) (γ : Gh) (σ : Ds) (a n : Nat) (w : World) (han : a + n ≤ 8 * σ.ws.length) (hd : (Dev p γ σ).holds w) :
    RowKT Tryz.prog 83 [.pointer (some ⟨p, 0, none⟩), .int .i64 (a : Int), .int .i64 (n : Int)] (Dev p γ σ) (fun v' => .tuple #[v', .int .i64 0]) 5 1 (((wbytes (viewWs σ.ws)).drop a).take n).length ((((wbytes (viewWs σ.ws)).drop a).take n).map bv) w := by
 refine enterVc hd Tryz.func83 rfl Tryz.ntmps83 rfl ?_
 have hgd := Dev.good hd
 have hln := hgd.len
 simp only [envOf]
 refine tR (tA rfl rfl (tA rfl rfl (tE (At.seq (tR (tM rfl rfl (tM rfl rfl (tM rfl rfl (At.callK 0 rfl (fun w hw hr => has_k _ _ _ _ _ w hr) Tryz.call115 rfl rfl (tV (Val.not rfl) rfl (tE ?_)))))))))))
 refine At.cond rfl (fun h1 => ?_) (fun h1 => ?_)
 ·try simp only [hasB, isSizeB, sB] at h1
  omega
 ·try simp only [hasB, isSizeB, sB] at h1
  refine At.skipC (At.thenN (tR (tM rfl rfl (At.makeRow0B (c := n) Tryz.underlying29 info_5 rfl rfl rfl rfl rfl (by omega) rfl (fun v2 => (tA rfl rfl (tE (tR (At.alloc zero_148 zc_148 rfl (fun b3 => (tE (At.seq (tR (tM rfl rfl (tA rfl rfl (tE (At.block ?_)))))))))))))))))
  skip
  refine At.loop (σ := (Nat × Value) × List UInt8) (fun s => s.1.1 ≤ n ∧ s.2.length = 8) (fun s => [(0, .pointer (some ⟨p, 0, none⟩)), (1, .int .i64 (a : Int)), (2, .int .i64 (n : Int)), (8, s.1.2), (9, .pointer (some ⟨b3, 0, none⟩)), (10, .int .i64 ((a + s.1.1 : Nat) : Int))]) (fun s => [blk b3 148 (s.2.map bv), brow 5 s.1.2 (((wbytes (viewWs σ.ws)).drop a).take s.1.1), Dev p γ σ]) (fun s => n - s.1.1) ((0, v2), zs 8) ⟨Nat.zero_le _, rfl⟩ (Sub.cons rfl (Sub.cons rfl (Sub.cons rfl (Sub.cons rfl (Sub.cons rfl (Sub.cons rfl Sub.nil)))))) (by dsimp only; rw [zs_bv, List.take_zero]) ?_
  intro s hs
  obtain ⟨⟨c, vr⟩, w8⟩ := s
  dsimp only at hs ⊢
  obtain ⟨hcn, hw8⟩ := hs
  refine At.seq (tR (tM rfl rfl (tM rfl rfl (tM rfl rfl ?_))))
  first | refine tV (Val.addI rfl rfl (by omega) (by omega)) rfl ?_ | refine tV (Val.bin rfl rfl rfl) rfl ?_
  refine tV (Val.bin rfl rfl rfl) rfl (tE ?_)
  refine At.cond rfl (fun h4 => ?_) (fun h4 => ?_)
  ·try simp only [hasB, isSizeB, sB] at h4
   have hc : c < n := by omega
   obtain ⟨wd, hk⟩ : ∃ wd, σ.ws[(a + c) / 8]? = some wd := ⟨_, List.getElem?_eq_getElem (by omega)⟩
   have hv0 : (viewWs σ.ws)[(a + c) / 8]? = some (nowW wd) := by unfold viewWs; rw [List.getElem?_map, hk]; rfl
   obtain ⟨r, hr⟩ : ∃ r, r = (a + c) % 8 := ⟨_, rfl⟩
   have hr8 : r < 8 := by omega
   refine At.skipC (At.thenN (At.block (At.seq (At.tail 7 rfl (by decide +kernel) ?_))))
   simp only [List.take_succ_cons, List.take_zero, List.drop_succ_cons, List.drop_zero]
   refine qV (Val.cutArr (b := b3) (o := 0) 0 8 0 8 8 Tryz.underlying148 Tryz.sizeOf5 rfl rfl rfl (by decide) (by decide) rfl rfl rfl) rfl (qM rfl rfl (qM rfl rfl (qM rfl rfl ?_)))
   first | refine qV (Val.remI rfl rfl (by omega) (by decide)) rfl ?_ | refine qV (Val.rem rfl rfl (by decide)) rfl ?_
   refine qV (Val.subI rfl rfl (by omega) (by omega)) rfl ?_
   rw [show ((a + c : Nat) : Int) - ((a + c : Nat) : Int) % 8 = 8 * (((a + c) / 8 : Nat) : Int) from by omega]
   refine QAt.callK 2 rfl (fun w hw hr => now_k _ _ _ ((a + c) / 8) wd w hk hr) Tryz.call116 rfl rfl (QAt.fin ?_)
   refine At.call1 0 rfl (fun w hw hr => putW_b b3 148 (w8.map bv) (nowW wd) w (by rw [List.length_map]; exact hw8) hr) Tryz.call94 rfl rfl ?_
   simp only [sc0, scS]
   refine tE (tR (tM rfl rfl (tV (Val.remI rfl rfl (by omega) (by decide)) rfl ?_)))
   rw [show ((a + c : Nat) : Int) % 8 = (r : Int) from by omega]
   refine tV (Val.cutArr (b := b3) (o := 0) r 8 r (8 - r) (8 - r) Tryz.underlying148 Tryz.sizeOf5 rfl ⟨_, _, rfl, by omega, by omega⟩ rfl (by omega) (by omega) (by rw [if_neg (by omega)]; omega) rfl rfl) rfl (tA rfl rfl (tE ?_))
   refine At.join (σ := Nat) (fun m => m = min (8 - r) (n - c)) (fun m => [(0, .pointer (some ⟨p, 0, none⟩)), (1, .int .i64 (a : Int)), (2, .int .i64 (n : Int)), (8, vr), (9, .pointer (some ⟨b3, 0, none⟩)), (10, .int .i64 ((a + c : Nat) : Int)), (11, .slice (some ⟨b3, r, none⟩) m (8 - r))]) (fun m => [blk b3 148 ((le8 (nowW wd)).map bv), rowR vr 5 1 (((((wbytes (viewWs σ.ws)).drop a).take c)).length) (((((wbytes (viewWs σ.ws)).drop a).take c)).map bv), Dev p γ (σ)]) ?_ ?_
   ·refine tR (tM rfl rfl (tV (Val.len (bt := #[]) Tryz.underlying29 rfl) rfl (tM rfl rfl (tM rfl rfl ?_))))
    first | refine tV (Val.addI rfl rfl (by omega) (by omega)) rfl ?_ | refine tV (Val.bin rfl rfl rfl) rfl ?_
    refine tM rfl rfl ?_
    first | refine tV (Val.subI rfl rfl (by omega) (by omega)) rfl ?_ | refine tV (Val.bin rfl rfl rfl) rfl ?_
    refine tV (Val.bin rfl rfl rfl) rfl (tE ?_)
    refine At.cond rfl (fun h5 => ?_) (fun h5 => ?_)
    ·try simp only [hasB, isSizeB, sB] at h5
     refine At.region (tM rfl rfl (tM rfl rfl (tM rfl rfl ?_)))
     first | refine tV (Val.addI rfl rfl (by omega) (by omega)) rfl ?_ | refine tV (Val.bin rfl rfl rfl) rfl ?_
     refine tM rfl rfl ?_
     first | refine tV (Val.subI rfl rfl (by omega) (by omega)) rfl ?_ | refine tV (Val.bin rfl rfl rfl) rfl ?_
     refine tV (Val.cutSl (b := b3) (o := r) 0 (n - c) r (n - c) (8 - r) Tryz.underlying29 Tryz.sizeOf5 rfl rfl ⟨_, _, rfl, by omega, by omega⟩ (by omega) (by omega) (by split <;> omega) rfl rfl) rfl (tA rfl rfl (tE ?_))
     exact At.meets _ (by omega) (Sub.cons rfl (Sub.cons rfl (Sub.cons rfl (Sub.cons rfl (Sub.cons rfl (Sub.cons rfl (Sub.cons rfl Sub.nil))))))) (List.Perm.refl _)
    ·try simp only [hasB, isSizeB, sB] at h5
     refine At.skipC (At.thenN ?_)
     exact At.meets _ (by omega) (Sub.cons rfl (Sub.cons rfl (Sub.cons rfl (Sub.cons rfl (Sub.cons rfl (Sub.cons rfl (Sub.cons rfl Sub.nil))))))) (List.Perm.refl _)
   ·intro m hs
    have hm8 : r + m ≤ 8 := by omega
    have hm1 : 1 ≤ m := by omega
    refine tR (tM rfl rfl (tM rfl rfl ?_))
    refine At.appendPart (i := 1) (j := 0) (by_ := 1) (w8 := le8 (nowW wd)) Tryz.underlying29 info_5 rfl rfl rfl rfl rfl rfl rfl rfl (by rw [le_length]; exact hm8) (by rw [List.length_take]; omega) (by rw [List.length_take]; omega) rfl (fun v6 => ?_)
    simp only [sc0, scS]
    refine tA rfl rfl (tE (At.region (tM rfl rfl (tM rfl rfl (tV (Val.len (bt := #[]) Tryz.underlying29 rfl) rfl ?_)))))
    first | refine tV (Val.addI rfl rfl (by omega) (by omega)) rfl ?_ | refine tV (Val.bin rfl rfl rfl) rfl ?_
    refine tA rfl rfl (At.nil (At.blkN (At.thenN ?_)))
    exact At.again ((c + m, v6), le8 (nowW wd)) ⟨(show c + m ≤ n by omega), le_length 8 _⟩ (by dsimp only; omega) (Sub.cons rfl (Sub.cons rfl (Sub.cons rfl (Sub.cons rfl (Sub.cons rfl (Sub.cons (congrArg (fun z => some (Value.int IntKind.i64 z)) (by dsimp only; omega)) Sub.nil)))))) (by dsimp only; rw [take_part hv0 hr hm8])
  ·try simp only [hasB, isSizeB, sB] at h4
   obtain rfl : c = n := by omega
   refine At.exitC (At.thenX (At.thenX (At.blkX (At.thenN (tR (tM rfl rfl (tA rfl rfl (tA rfl rfl (tE (At.retC (At.ret2 (.inl rfl) rfl rfl rfl rfl (fun w hw => ?_))))))))))))
   exact ⟨_, rfl, hw.drop (List.Sublist.refl _ |>.cons _)⟩
end Go.Proofs.YtfchinibjhcejaaGreatDoor
namespace Go.Proofs.YtfchinibjhcejaaGreatDoor
open Go Go.Wk
end Go.Proofs.YtfchinibjhcejaaGreatDoor
namespace Go.Proofs.YtfchinibjhcejaaGreatDoor
open Go Go.Wk
def wordsL (l : List UInt8) (m : Nat) : List (BitVec 64) := (List.range m).map fun j => wdA l (8 * j)
theorem wordsL_length (l : List UInt8) (m : Nat) : (wordsL l m).length = m := by simp [wordsL]
theorem wordsL_at {l : List UInt8} {m j : Nat} (h : j < m) : (wordsL l m)[j]? = some (wdA l (8 * j)) := by unfold wordsL; rw [List.getElem?_map, List.getElem?_range h]; rfl
theorem wordsL_wbytes (X : List (BitVec 64)) : wordsL (wbytes X) X.length = X := by
  apply List.ext_getElem?
  intro k
  rcases Nat.lt_or_ge k X.length with h | h
  · rw [wordsL_at h, List.getElem?_eq_getElem h, wbytes_word (List.getElem?_eq_getElem h)]
  · rw [List.getElem?_eq_none (by rw [wordsL_length]; exact h), List.getElem?_eq_none h]
theorem wdA_cut {l : List UInt8} {a n : Nat} (h : a + 8 ≤ l.length) (hn : 8 ≤ n) : wdA ((l.drop a).take n) 0 = wdA l a := by unfold wdA num; rw [List.drop_zero, List.take_take, Nat.min_eq_left hn]
theorem write_d (p : Nat) (γ : Gh) (σ : Ds) (k m : Nat) (v : Value) (lb : List UInt8) (w : World) (hv : RdB w v lb) (ho : Off v (lb.map bv) (feet [Dev p γ σ])) (hm : lb.length = 8 * m) (hkl : k + m ≤ σ.ws.length) (hst : σ.steps + m ≤ 1099511627776) (hd : (Dev p γ σ).holds w) :
    DevU Tryz.prog 86 [.pointer (some ⟨p, 0, none⟩), .int .i64 (8 * (k : Int)), v] p γ σ (.int .i64 (storesE k σ (wordsL lb m)).1) (storesE k σ (wordsL lb m)).2 w := by
 obtain ⟨A, c, rfl⟩ : ∃ A c, v = .slice A lb.length c := by obtain ⟨A, c, h, _⟩ := hv; exact ⟨A, c, h⟩
 refine enterVc hd Tryz.func86 rfl Tryz.ntmps86 rfl ?_
 have hgd := Dev.good hd
 have hln := hgd.len
 simp only [envOf]
 refine tR (tA rfl rfl (tE (At.seq (tR (tM rfl rfl (tM rfl rfl (tM rfl rfl (tV (Val.lenRd hv Tryz.underlying29 rfl) rfl (At.callK 0 rfl (fun w hw hr => has_k _ _ _ _ _ w hr) Tryz.call115 rfl rfl (tV (Val.not rfl) rfl (tE ?_)))))))))))
 refine At.cond rfl (fun h1 => ?_) (fun h1 => ?_)
 ·try simp only [hasB, isSizeB, sB] at h1
  omega
 ·try simp only [hasB, isSizeB, sB] at h1
  refine At.skipC (At.thenN (At.seq (tR (tM rfl rfl (tV (Val.remI rfl rfl (by omega) (by decide)) rfl ?_)))))
  rw [show 8 * (k : Int) % 8 = 0 from by omega]
  refine tV (Val.bin rfl rfl rfl) rfl (tM rfl rfl (At.yes rfl rfl (tM rfl rfl (At.yes rfl rfl (tV (Val.lenRd hv Tryz.underlying29 rfl) rfl (At.yes rfl rfl (tV (Val.remI rfl rfl (by omega) (by decide)) rfl ?_)))))))
  rw [show ((lb.length : Nat) : Int) % 8 = 0 from by omega]
  refine At.yes rfl rfl (tV (Val.bin rfl rfl rfl) rfl (tV (Val.pickF rfl rfl) rfl (tE (At.condF rfl (At.skipC (At.thenN (At.seq (tR (tA rfl rfl (tE (At.block ?_)))))))))))
  skip
  refine At.loop (σ := (Nat × Ds) × Gh) (fun s => s.1.1 ≤ m ∧ storesE k σ (wordsL lb m) = storesE (k + s.1.1) s.1.2 ((wordsL lb m).drop s.1.1) ∧ s.1.2.ws.length = σ.ws.length ∧ s.1.2.steps = σ.steps + s.1.1) (fun s => [(0, .pointer (some ⟨p, 0, none⟩)), (1, .int .i64 (8 * (k : Int))), (2, (.slice A lb.length c)), (7, .int .i64 (8 * (s.1.1 : Int)))]) (fun s => [Dev p s.2 s.1.2]) (fun s => m - s.1.1) ((0, σ), γ) ⟨Nat.zero_le _, rfl, rfl, rfl⟩ (Sub.cons rfl (Sub.cons rfl (Sub.cons rfl (Sub.cons rfl Sub.nil)))) (List.Perm.refl _) ?_
  intro s hs
  obtain ⟨⟨j, σ1⟩, γ1⟩ := s
  dsimp only at hs ⊢
  obtain ⟨hj, he, hl1, hs1⟩ := hs
  refine At.seq (tR (tM rfl rfl (tM rfl rfl (tV (Val.lenRd hv Tryz.underlying29 rfl) rfl (tV (Val.bin rfl rfl rfl) rfl (tE ?_))))))
  refine At.cond rfl (fun h2 => ?_) (fun h2 => ?_)
  ·try simp only [hasB, isSizeB, sB] at h2
   have hjm : j < m := by omega
   refine At.skipC (At.thenN (At.seq (At.block (tR (tM rfl rfl (tM rfl rfl (tM rfl rfl ?_)))))))
   first | refine tV (Val.addI rfl rfl (by omega) (by omega)) rfl ?_ | refine tV (Val.bin rfl rfl rfl) rfl ?_
   refine tM rfl rfl (tM rfl rfl (tV (Val.cutRd (l := 8 * j) (h := lb.length) hv Tryz.underlying29 Tryz.sizeOf5 rfl ⟨_, _, rfl, by omega, by omega⟩ rfl (by omega) (by omega)) rfl ?_))
   refine At.callP (fun w hw => (by have h0 := wordOf_p _ _ w (RdB.cut (l := 8 * j) (h := lb.length) (hv.keep hw ho) (by omega) (by omega)) (by rw [List.length_take, List.length_drop]; omega); rwa [wdA_cut (by omega) (by omega)] at h0)) Tryz.call79 rfl rfl ?_
   obtain ⟨x, hx⟩ : ∃ x, x = wdA lb (8 * j) := ⟨_, rfl⟩
   rw [← hx]
   have hx : (wordsL lb m)[j]? = some x := by rw [hx]; exact wordsL_at hjm
   obtain ⟨wd, hwd⟩ : ∃ wd, σ1.ws[k + j]? = some wd := ⟨_, List.getElem?_eq_getElem (by omega)⟩
   cases hdb : deadB σ1
   ·rw [show 8 * (k : Int) + 8 * (j : Int) = 8 * ((k + j : Nat) : Int) from by omega]
    refine At.callD 0 rfl (fun w hw hr => (storeD_some (x := x) hwd) ▸ store_d _ _ _ (k + j) wd x w hwd (by omega) hdb hr) Tryz.call87 rfl rfl (fun y3 => ?_)
    simp only [sc0, scS]
    refine tA rfl rfl (tE (tR (tM rfl rfl (tV (Val.bin rfl rfl rfl) rfl (tE (At.condF rfl (At.skipC (At.blkN (At.thenN (At.region (tM rfl rfl ?_)))))))))))
    first | refine tV (Val.addI rfl rfl (by omega) (by omega)) rfl ?_ | refine tV (Val.bin rfl rfl rfl) rfl ?_
    refine tA rfl rfl (tE ?_)
    exact At.again ((j + 1, storeD σ1 (k + j) x), y3) ⟨(show j + 1 ≤ m by omega), (by rw [he, drop_cons hx, storesE_live hdb]; rfl), (storeD_rest x (show k + j < σ1.ws.length by omega)).2.2.trans hl1, (show (storeD σ1 (k + j) x).steps = σ.steps + (j + 1) by have := (storeD_rest x (show k + j < σ1.ws.length by omega)).1; omega)⟩ (by dsimp only; omega) (Sub.cons rfl (Sub.cons rfl (Sub.cons rfl (Sub.cons (congrArg (fun z => some (Value.int IntKind.i64 z)) (by first | omega | (dsimp only; omega))) Sub.nil)))) (List.Perm.refl _)
   ·refine At.callK 0 rfl (fun w hw hr => store_0 _ _ _ _ _ w (place_at' (by omega) (by omega) (by omega)) hdb hr) Tryz.call87 rfl rfl (tA rfl rfl (tE (tR (tM rfl rfl (tV (Val.bin rfl rfl rfl) rfl (tE (At.condT rfl (tR (tM rfl rfl (tA rfl rfl (tE (At.retC (At.blkR (At.thenR (At.thenR (At.blkR (At.thenR (At.ret1 (.inl rfl) rfl rfl rfl (fun w hw => ?_)))))))))))))))))))
    rw [he, drop_cons hx, storesE_dead hdb]
    exact ⟨_, rfl, hw⟩
  ·try simp only [hasB, isSizeB, sB] at h2
   refine At.exitC (At.thenX (At.thenX (At.blkX (At.thenN (tR (tA rfl rfl (tE (At.retC (At.ret1 (.inl rfl) rfl rfl rfl (fun w hw => ?_))))))))))
   rw [he, List.drop_of_length_le (by rw [wordsL_length]; omega)]
   exact ⟨_, rfl, hw⟩
end Go.Proofs.YtfchinibjhcejaaGreatDoor
namespace Go.Proofs.YtfchinibjhcejaaGreatDoor
open Go Go.Wk
end Go.Proofs.YtfchinibjhcejaaGreatDoor
namespace Go.Proofs.YtfchinibjhcejaaGreatDoor
open Go Go.Wk
end Go.Proofs.YtfchinibjhcejaaGreatDoor
namespace Go.Proofs.YtfchinibjhcejaaGreatDoor
open Go Go.Wk
end Go.Proofs.YtfchinibjhcejaaGreatDoor
namespace Go.Proofs.YtfchinibjhcejaaGreatDoor
open Go Go.Wk
end Go.Proofs.YtfchinibjhcejaaGreatDoor
namespace Go.Proofs.YtfchinibjhcejaaGreatDoor
open Go Go.Wk
theorem Rep.offOld {w0 w : World} {S : Nat → Prop} {H : List Res} {r : Res} {v : Value} {sz n : Nat} {xs : List Value} (hw : Rep w0 S H w) (h : Rd w0 v sz n xs) (ho : Off v xs S) (hr : r ∈ H) : Off v xs (feet [r]) := fun hne b o s n' c hv ⟨q, hq, hb⟩ => by
  rw [List.mem_singleton.1 hq] at hb
  obtain ⟨A, c', rfl, h2, _⟩ := h
  have hl : 0 < xs.length := List.length_pos_iff.2 hne
  obtain ⟨b', o', e, hc⟩ := h2 0 _ (List.getElem?_eq_getElem hl)
  simp only [Value.slice.injEq] at hv
  rw [hv.1] at e
  simp only [Option.some.injEq, Addr.mk.injEq] at e
  obtain ⟨rfl, _, _⟩ := e
  have hlt := block_lt_of_cell hc
  rcases hw.mine r hr _ hb with h3 | h3
  · simp only at *; omega
  · exact ho hne _ _ _ _ _ (by rw [hv.1]) h3
end Go.Proofs.YtfchinibjhcejaaGreatDoor
namespace Go.Wk
open Go Go.ChangeShapes Go.WideShapes Go.ChangeAt Go.RowKit
section
variable {H : Type} {enc : TypeId × Value → H} {P : Program} {W : World} {r : Reach} {base b0 : Nat} {sp : Nat → Bool} {held : Bool}
theorem each_of {p : Nat → Bool} : ∀ {ts : List TypeId} {ds : List (DataW H)} {i : Nat} {t : TypeId} {d : DataW H}, (DataW.weightsEach P ts ds).all p = true → ts[i]? = some t → ds[i]? = some d → (DataW.weights P t d).all p = true
  | t' :: ts, d' :: ds, 0, t, d, h, ht, hd => by
    simp only [DataW.weightsEach, List.all_append, Bool.and_eq_true] at h
    have e1 : t' = t := by simpa using ht
    have e2 : d' = d := by simpa using hd
    subst e1 e2; exact h.1
  | t' :: ts, d' :: ds, i + 1, t, d, h, ht, hd => by
    simp only [DataW.weightsEach, List.all_append, Bool.and_eq_true] at h
    exact each_of h.2 (by simpa using ht) (by simpa using hd)
  | [], ds, i, t, d, h, ht, hd => by simp at ht
  | t' :: ts, [], i, t, d, h, ht, hd => by simp at hd
structure Fld (enc : TypeId × Value → H) (P : Program) (W : World) (r : Reach) (base b0 : Nat) (sp : Nat → Bool) (held : Bool) (t : TypeId) (c : Value) : Prop where
  ok : Cell.okWide P W r base t c
  read : ∃ fuel x, DataW.trod enc P W b0 sp held fuel t [c] = some x ∧ (DataW.weights P t x.1).all (· ≤ reachBytes) = true
theorem Fld.int {t : TypeId} {c : Value} (u : P.underlying t = some (.int .i64)) (h : Fld enc P W r base b0 sp held t c) : ∃ n, c = .int .i64 n ∧ Fits n := by
  obtain ⟨fuel, x, hf, _⟩ := h.read
  obtain ⟨n, g, _, w⟩ := DataW.trod_int u hf
  exact ⟨n, by simpa using g, has64 (by simpa [Lit.wf, IntKind.has] using w)⟩
theorem Fld.word {t : TypeId} {c : Value} (u : P.underlying t = some (.int .u64)) (h : Fld enc P W r base b0 sp held t c) : ∃ x, c = b64 x := by
  obtain ⟨fuel, x, hf, _⟩ := h.read
  obtain ⟨n, g, _, w⟩ := DataW.trod_int u hf
  obtain ⟨x, rfl⟩ := hasU64 (n := n) (by simpa [Lit.wf, IntKind.has] using w)
  exact ⟨x, by simpa using g⟩
theorem words_of {t e : TypeId} {v : Value} {fuel : Nat} {x : DataW H × List MemPlace} (hu : P.underlying t = some (.slice e)) (he : P.underlying e = some (.int .u64)) (hc : P.cellsOf e = 1) (hby : P.bytesOf e = 8)
    (hok : v = .slice none 0 0 ∨ ∃ b o n c, v = .slice (some ⟨b, o, none⟩) n c ∧ n ≤ c) (hf : DataW.trod enc P W b0 sp held fuel t [v] = some x) (hw : (DataW.weights P t x.1).all (· ≤ reachBytes) = true) :
    ∃ L : List (BitVec 64), RdW W v L ∧ L.length ≤ 17592186044416 := by
  rcases hok with rfl | ⟨b, o, n, c, rfl, hnc⟩
  · exact ⟨[], Rd.nil W 1, by simp⟩
  · rcases open_ints hu he hc hf with ⟨h0, _⟩ | ⟨a, len, cap, zs, h0, _, hl, _, hz, hx, hcell, hwf⟩
    · simp at h0
    · simp only [List.cons.injEq, Value.slice.injEq, Option.some.injEq, and_true] at h0
      obtain ⟨rfl, rfl, rfl⟩ := h0
      have hlen : n ≤ zs.length := by rw [hz]; split <;> omega
      have hln : (zs.take n).length = n := by rw [List.length_take]; omega
      have hxe : x.1 = _ := congrArg Prod.fst hx
      have hdw : zs.length * 8 ≤ reachBytes := by
        have hall := List.all_eq_true.1 hw
        rw [hxe] at hall
        unfold DataW.weights at hall
        rw [hu] at hall
        have := hall _ (List.mem_cons_self ..)
        simp only [decide_eq_true_eq, hby, lits, List.length_map] at this
        rw [← List.length_append, List.take_append_drop] at this
        exact this
      refine ⟨(zs.take n).map (BitVec.ofInt 64), ⟨some ⟨b, o, none⟩, c, by rw [List.length_map, hln], fun j u hj => ?_, by rw [List.length_map, Nat.mul_one], by rw [List.length_map, hln]; exact hnc, (fun h => by cases h), (fun _ a ha => by cases ha; rfl)⟩, ?_⟩
      · rw [List.getElem?_map, List.getElem?_map, List.getElem?_take] at hj
        split at hj
        · rename_i hlt
          refine ⟨b, o, rfl, ?_⟩
          have h1 := hcell j (by omega)
          rw [Addr.add_off] at h1
          rw [h1]
          have hjl : j < zs.length := by omega
          rw [List.getElem?_eq_getElem hjl] at hj
          have hg : zs.getD j 0 = zs[j] := by simp [List.getD, hjl]
          rw [hg]
          obtain ⟨q, hq⟩ := hasU64 (n := zs[j]) (by simpa [Lit.wf, IntKind.has] using hwf _ (List.getElem_mem hjl))
          rw [← hj, hq]; simp
        · cases hj
      · rw [List.length_map, hln]; unfold reachBytes at hdw; omega
theorem Fld.words {t e : TypeId} {c : Value} (hu : P.underlying t = some (.slice e)) (he : P.underlying e = some (.int .u64)) (hc : P.cellsOf e = 1) (hby : P.bytesOf e = 8)
    (h : Fld enc P W r base b0 sp held t c) : ∃ L : List (BitVec 64), RdW W c L ∧ L.length ≤ 17592186044416 := by
  obtain ⟨fuel, x, hf, hw⟩ := h.read
  exact words_of hu he hc hby (cell_slice hu h.ok) hf hw
theorem Fld.bytes {t e : TypeId} {c : Value} (hu : P.underlying t = some (.slice e)) (he : P.underlying e = some (.int .u8)) (hc : P.cellsOf e = 1) (hby : P.bytesOf e = 1)
    (h : Fld enc P W r base b0 sp held t c) : ∃ L : List UInt8, RdB W c L ∧ L.length ≤ 140737488351232 := by
  obtain ⟨fuel, x, hf, hw⟩ := h.read
  have hok := cell_slice hu h.ok
  have hv : c.cells.toList = [c] := by rcases hok with rfl | ⟨_, _, _, _, rfl, _⟩ <;> rfl
  obtain ⟨A, cc, l, rfl, hb, hcc, hm, hz, hp⟩ := arg_byteslice (r := r) (base := base) hu he hc hby (by unfold Value.okWide; rw [hu]; exact h.ok) (⟨fuel, by rw [hv]; exact hf⟩ : DataW.Trod enc P W b0 sp held t c x.1 x.2) hw
  exact ⟨l, Bytes.rd hb hcc hz hp, hm⟩
end
end Go.Wk
namespace Go.Proofs.YtfchinibjhcejaaGreatDoor
open Go Go.Wk
def wI (n lo hi : Int) : Bool := decide (lo ≤ n) && decide (n ≤ hi)
def isDataB (p : Int) : Bool := wI p 5 1023
def isInoB (p : Int) : Bool := wI p 1 256
theorem within_p (n lo hi : Int) (w : World) :
    PureC Tryz.prog 108 [.int .i64 n, .int .i64 lo, .int .i64 hi] (.bool (wI n lo hi)) w := by
 refine enter0 Tryz.func108 rfl Tryz.ntmps108 rfl ?_
 simp only [envOf]
 refine tR (tA rfl rfl (tE (tR (tM rfl rfl (tM rfl rfl (tV (Val.bin rfl rfl rfl) rfl (tM rfl rfl ?_)))))))
 refine At.split (t := 10) rfl (fun h1 => ?_) (fun h1 => ?_)
 ·refine At.yes rfl rfl (tM rfl rfl (At.yes rfl rfl (tM rfl rfl (At.yes rfl rfl (tV (Val.bin rfl rfl rfl) rfl (tV (Val.pickT rfl rfl) rfl (tA rfl rfl (tE (At.retC (At.ret1 (.inl rfl) rfl rfl rfl (fun w hw => ?_)))))))))))
  exact ⟨by simp [wI, h1], hw.mod⟩
 ·refine At.no rfl rfl rfl rfl (At.no rfl rfl rfl rfl (At.no rfl rfl rfl rfl (tV (Val.pickF rfl rfl) rfl (tA rfl rfl (tE (At.retC (At.ret1 (.inl rfl) rfl rfl rfl (fun w hw => ?_))))))))
  exact ⟨by simp [wI, h1], hw.mod⟩
end Go.Proofs.YtfchinibjhcejaaGreatDoor
namespace Go.Proofs.YtfchinibjhcejaaGreatDoor
open Go Go.Wk
def GoodSup (p i c : Int) : Prop := 24 ≤ p ∧ p ≤ 1024 ∧ 8 ≤ i ∧ i ≤ 256 ∧ i % 8 = 0 ∧ 1 ≤ c ∧ c ≤ 8 ∧ 8 ≤ p - 4 - i / 8
instance (p i c : Int) : Decidable (GoodSup p i c) := by unfold GoodSup; infer_instance
def fitV (p i c : Int) : Value := if GoodSup p i c then .tuple #[.agg #[.int .i64 p, .int .i64 i, .int .i64 c, .int .i64 (4 + i / 8)], .int .i64 0] else .tuple #[.agg #[.int .i64 0, .int .i64 0, .int .i64 0, .int .i64 0], .int .i64 30]
theorem fit_yes {p i c : Int} (h : GoodSup p i c) : fitV p i c = .tuple #[.agg #[.int .i64 p, .int .i64 i, .int .i64 c, .int .i64 (4 + i / 8)], .int .i64 0] := if_pos h
theorem fit_no {p i c : Int} (h : ¬ GoodSup p i c) : fitV p i c = .tuple #[.agg #[.int .i64 0, .int .i64 0, .int .i64 0, .int .i64 0], .int .i64 30] := if_neg h
theorem retB {a b : Bool} (h : a = b) : Ending.returned (.bool a) = .returned (.bool b) := by rw [h]
theorem retI {k : IntKind} {a b : Int} (h : a = b) : Ending.returned (.int k a) = .returned (.int k b) := by rw [h]
theorem rem8 {i : Int} (h : 0 ≤ i) : i.tmod 8 = i % 8 := Int.tmod_eq_emod_of_nonneg h
theorem quo8 {i : Int} (h : 0 ≤ i) : i.tdiv 8 = i / 8 := Int.tdiv_eq_ediv_of_nonneg h
theorem tdiv_nn {i : Int} (n : Int) (h : 0 ≤ i) : i.tdiv n = i / n := Int.tdiv_eq_ediv_of_nonneg h
theorem wI_T {n lo hi : Int} : wI n lo hi = true ↔ lo ≤ n ∧ n ≤ hi := by simp [wI]
theorem wI_F {n lo hi : Int} : wI n lo hi = false ↔ ¬ (lo ≤ n ∧ n ≤ hi) := by rw [← wI_T]; simp
theorem notT {b : Bool} : (!b) = true ↔ b = false := by cases b <;> simp
theorem notF {b : Bool} : (!b) = false ↔ b = true := by cases b <;> simp
theorem bneT {a b : Int} : (a != b) = true ↔ a ≠ b := by simp
theorem bneF {a b : Int} : (a != b) = false ↔ a = b := by simp
theorem beqT {a b : Int} : (a == b) = true ↔ a = b := by simp
theorem beqF {a b : Int} : (a == b) = false ↔ a ≠ b := by simp
theorem decT {p : Prop} [Decidable p] : decide p = true ↔ p := decide_eq_true_iff
theorem decF {p : Prop} [Decidable p] : decide p = false ↔ ¬ p := decide_eq_false_iff_not
def slotAt (n : Int) : Int := if isInoB n = true then 2048 + 64 * (n - 1) else -1
theorem slotAt_T {n : Int} (h : isInoB n = true) : slotAt n = 2048 + 64 * (n - 1) := if_pos h
theorem slotAt_F {n : Int} (h : isInoB n = false) : slotAt n = -1 := if_neg (by rw [h]; simp)
theorem ino_T {n : Int} : isInoB n = true ↔ 1 ≤ n ∧ n ≤ 256 := by unfold isInoB; exact wI_T
theorem ino_F {n : Int} : isInoB n = false ↔ ¬ (1 ≤ n ∧ n ≤ 256) := by unfold isInoB; exact wI_F
theorem data_T {n : Int} : isDataB n = true ↔ 5 ≤ n ∧ n ≤ 1023 := by unfold isDataB; exact wI_T
theorem data_F {n : Int} : isDataB n = false ↔ ¬ (5 ≤ n ∧ n ≤ 1023) := by unfold isDataB; exact wI_F
theorem fit_p (p i c : Int) (w : World) :
    PureC Tryz.prog 70 [.agg #[.int .i64 p, .int .i64 i, .int .i64 c]] (fitV p i c) w := by
 refine enter0 Tryz.func70 rfl Tryz.ntmps70 rfl ?_
 have e8 := @rem8 i
 have q8 := @quo8 i
 simp only [envOf]
 refine tR (At.box rfl rfl rfl (fun b1 => (At.alloc Tryz.zeroValue31 rfl rfl (fun b2 => (tA rfl rfl (tE (At.seq (tR (tV (Val.field 0 rfl fo_23_0 rfl) rfl (tV (Val.load (i := 1) Tryz.isAgg3 rfl rfl rfl) rfl (At.callP (fun w hw => within_p _ _ _ w) Tryz.call108 rfl rfl (tV (Val.not rfl) rfl (tM rfl rfl ?_)))))))))))))
 refine At.split (t := 9) rfl (fun h3 => ?_) (fun h3 => ?_)
 ·try simp only [wI_T, wI_F, notT, notF, bneT, bneF, beqT, beqF, decT, decF] at h3
  refine At.no rfl rfl rfl rfl (At.no rfl rfl rfl rfl (At.no rfl rfl rfl rfl (At.no rfl rfl rfl rfl (tV (Val.pickT rfl rfl) rfl (tM rfl rfl (At.no rfl rfl rfl rfl (At.no rfl rfl rfl rfl (At.no rfl rfl rfl rfl (At.no rfl rfl rfl rfl (tV (Val.pickT rfl rfl) rfl (tM rfl rfl (At.no rfl rfl rfl rfl (At.no rfl rfl rfl rfl (At.no rfl rfl rfl rfl (At.no rfl rfl rfl rfl (tV (Val.pickT rfl rfl) rfl (tE (At.condT rfl (tR ?_)))))))))))))))))))
  refine tV (Val.build (fun a ha => by simp only [List.map_toArray, List.map_cons, List.map_nil] <;> rfl) (bld_31_)) rfl (At.storeAll (i := 0) Tryz.sizeOf31 rfl rfl rfl (by simp [Value.oneCell']) rfl rfl ?_)
  simp only [sc0, scS]
  refine tA rfl rfl (tE (At.retC (At.thenR (At.ret2 (.inl rfl) rfl rfl (ResOf.all (i := 0) Tryz.isAgg31 Tryz.sizeOf31 rfl rfl rfl) rfl (fun w hw => ?_)))))
  exact ⟨by rw [fit_no (by unfold GoodSup; omega)], hw.mod⟩
 ·try simp only [wI_T, wI_F, notT, notF, bneT, bneF, beqT, beqF, decT, decF] at h3
  refine At.yes rfl rfl (tV (Val.field 1 rfl fo_23_1 rfl) rfl (At.yes rfl rfl (tV (Val.load (i := 1) Tryz.isAgg3 rfl rfl rfl) rfl (At.yes rfl rfl (At.callP (fun w hw => within_p _ _ _ w) Tryz.call108 rfl rfl (At.yes rfl rfl (tV (Val.not rfl) rfl (tV (Val.pickF rfl rfl) rfl (tM rfl rfl ?_)))))))))
  refine At.split (t := 15) rfl (fun h4 => ?_) (fun h4 => ?_)
  ·try simp only [wI_T, wI_F, notT, notF, bneT, bneF, beqT, beqF, decT, decF] at h4
   refine At.no rfl rfl rfl rfl (At.no rfl rfl rfl rfl (At.no rfl rfl rfl rfl (At.no rfl rfl rfl rfl (tV (Val.pickT rfl rfl) rfl (tM rfl rfl (At.no rfl rfl rfl rfl (At.no rfl rfl rfl rfl (At.no rfl rfl rfl rfl (At.no rfl rfl rfl rfl (tV (Val.pickT rfl rfl) rfl (tE (At.condT rfl (tR ?_)))))))))))))
   refine tV (Val.build (fun a ha => by simp only [List.map_toArray, List.map_cons, List.map_nil] <;> rfl) (bld_31_)) rfl (At.storeAll (i := 0) Tryz.sizeOf31 rfl rfl rfl (by simp [Value.oneCell']) rfl rfl ?_)
   simp only [sc0, scS]
   refine tA rfl rfl (tE (At.retC (At.thenR (At.ret2 (.inl rfl) rfl rfl (ResOf.all (i := 0) Tryz.isAgg31 Tryz.sizeOf31 rfl rfl rfl) rfl (fun w hw => ?_)))))
   exact ⟨by rw [fit_no (by unfold GoodSup; omega)], hw.mod⟩
  ·try simp only [wI_T, wI_F, notT, notF, bneT, bneF, beqT, beqF, decT, decF] at h4
   refine At.yes rfl rfl (tV (Val.field 1 rfl fo_23_1 rfl) rfl (At.yes rfl rfl (tV (Val.load (i := 1) Tryz.isAgg3 rfl rfl rfl) rfl (At.yes rfl rfl (tV (Val.rem rfl rfl (by decide)) rfl (At.yes rfl rfl (tV (Val.bin rfl rfl rfl) rfl (tV (Val.pickF rfl rfl) rfl (tM rfl rfl ?_)))))))))
   refine At.split (t := 21) rfl (fun h5 => ?_) (fun h5 => ?_)
   ·try simp only [wI_T, wI_F, notT, notF, bneT, bneF, beqT, beqF, decT, decF] at h5
    refine At.no rfl rfl rfl rfl (At.no rfl rfl rfl rfl (At.no rfl rfl rfl rfl (At.no rfl rfl rfl rfl (tV (Val.pickT rfl rfl) rfl (tE (At.condT rfl (tR ?_)))))))
    refine tV (Val.build (fun a ha => by simp only [List.map_toArray, List.map_cons, List.map_nil] <;> rfl) (bld_31_)) rfl (At.storeAll (i := 0) Tryz.sizeOf31 rfl rfl rfl (by simp [Value.oneCell']) rfl rfl ?_)
    simp only [sc0, scS]
    refine tA rfl rfl (tE (At.retC (At.thenR (At.ret2 (.inl rfl) rfl rfl (ResOf.all (i := 0) Tryz.isAgg31 Tryz.sizeOf31 rfl rfl rfl) rfl (fun w hw => ?_)))))
    exact ⟨by rw [fit_no (by unfold GoodSup; omega)], hw.mod⟩
   ·try simp only [wI_T, wI_F, notT, notF, bneT, bneF, beqT, beqF, decT, decF] at h5
    refine At.yes rfl rfl (tV (Val.field 2 rfl fo_23_2 rfl) rfl (At.yes rfl rfl (tV (Val.load (i := 1) Tryz.isAgg3 rfl rfl rfl) rfl (At.yes rfl rfl (At.callP (fun w hw => within_p _ _ _ w) Tryz.call108 rfl rfl (At.yes rfl rfl (tV (Val.not rfl) rfl (tV (Val.pickF rfl rfl) rfl (tE ?_)))))))))
    refine At.cond rfl (fun h6 => ?_) (fun h6 => ?_)
    ·try simp only [wI_T, wI_F, notT, notF, bneT, bneF, beqT, beqF, decT, decF] at h6
     refine tR ?_
     refine tV (Val.build (fun a ha => by simp only [List.map_toArray, List.map_cons, List.map_nil] <;> rfl) (bld_31_)) rfl (At.storeAll (i := 0) Tryz.sizeOf31 rfl rfl rfl (by simp [Value.oneCell']) rfl rfl ?_)
     simp only [sc0, scS]
     refine tA rfl rfl (tE (At.retC (At.thenR (At.ret2 (.inl rfl) rfl rfl (ResOf.all (i := 0) Tryz.isAgg31 Tryz.sizeOf31 rfl rfl rfl) rfl (fun w hw => ?_)))))
     exact ⟨by rw [fit_no (by unfold GoodSup; omega)], hw.mod⟩
    ·try simp only [wI_T, wI_F, notT, notF, bneT, bneF, beqT, beqF, decT, decF] at h6
     refine At.skipC (At.thenN (tR (tV (Val.field 1 rfl fo_23_1 rfl) rfl (tV (Val.load (i := 1) Tryz.isAgg3 rfl rfl rfl) rfl (tV (Val.bin rfl rfl rfl) rfl (tV (Val.bin rfl rfl rfl) rfl (tV (Val.quo rfl rfl (by decide)) rfl (tA rfl rfl (At.nil ?_)))))))))
     refine At.weaken [(1, .pointer (some ⟨b1, 0, none⟩)), (2, .pointer (some ⟨b2, 0, none⟩)), (4, .int .i64 (4 + i / 8))] (Sub.cons rfl (Sub.cons rfl (Sub.cons (congrArg (fun z => some (Value.int IntKind.i64 z)) (by rw [wrap_i64 (n := i * 64) (by omega) (by omega), wrap_i64 (n := 2048 + i * 64) (by omega) (by omega), tdiv_nn _ (by omega), wrap_i64 (by omega) (by omega)]; omega)) Sub.nil))) (At.thenN (At.seq (tR (tV (Val.field 0 rfl fo_23_0 rfl) rfl (tV (Val.load (i := 1) Tryz.isAgg3 rfl rfl rfl) rfl (tM rfl rfl (tV (Val.bin rfl rfl rfl) rfl ?_)))))))
     rw [wrap_i64 (by omega) (by omega)]
     refine tV (Val.bin rfl rfl rfl) rfl (tE ?_)
     refine At.cond rfl (fun h7 => ?_) (fun h7 => ?_)
     ·try simp only [wI_T, wI_F, notT, notF, bneT, bneF, beqT, beqF, decT, decF] at h7
      refine tR ?_
      refine tV (Val.build (fun a ha => by simp only [List.map_toArray, List.map_cons, List.map_nil] <;> rfl) (bld_31_)) rfl (At.storeAll (i := 0) Tryz.sizeOf31 rfl rfl rfl (by simp [Value.oneCell']) rfl rfl ?_)
      simp only [sc0, scS]
      refine tA rfl rfl (tE (At.retC (At.thenR (At.ret2 (.inl rfl) rfl rfl (ResOf.all (i := 0) Tryz.isAgg31 Tryz.sizeOf31 rfl rfl rfl) rfl (fun w hw => ?_)))))
      exact ⟨by rw [fit_no (by unfold GoodSup; omega)], hw.mod⟩
     ·try simp only [wI_T, wI_F, notT, notF, bneT, bneF, beqT, beqF, decT, decF] at h7
      refine At.skipC (At.thenN (tR (tV (Val.field 0 rfl fo_23_0 rfl) rfl (tV (Val.load (i := 1) Tryz.isAgg3 rfl rfl rfl) rfl (tV (Val.field 1 rfl fo_23_1 rfl) rfl (tV (Val.load (i := 1) Tryz.isAgg3 rfl rfl rfl) rfl (tV (Val.field 2 rfl fo_23_2 rfl) rfl (tV (Val.load (i := 1) Tryz.isAgg3 rfl rfl rfl) rfl (tM rfl rfl ?_)))))))))
      refine tV (Val.build (fun a ha => by simp only [List.map_toArray, List.map_cons, List.map_nil, ha.eval (x := (.tmp 40)) rfl, ha.eval (x := (.tmp 42)) rfl, ha.eval (x := (.tmp 44)) rfl, ha.eval (x := (.tmp 45)) rfl] <;> rfl) (bld_31_0_1_2_3 _ _ _ _ )) rfl (At.storeAll (i := 0) Tryz.sizeOf31 rfl rfl rfl (by simp [Value.oneCell']) rfl rfl ?_)
      simp only [sc0, scS]
      refine tA rfl rfl (tE (At.retC (At.ret2 (.inl rfl) rfl rfl (ResOf.all (i := 0) Tryz.isAgg31 Tryz.sizeOf31 rfl rfl rfl) rfl (fun w hw => ?_))))
      exact ⟨by rw [fit_yes (by unfold GoodSup; omega)], hw.mod⟩
theorem goodSup_p (p i c : Int) (w : World) (hp : -9223372036854775808 ≤ p ∧ p ≤ 9223372036854775807) :
    PureC Tryz.prog 61 [.agg #[.int .i64 p, .int .i64 i, .int .i64 c]] (.bool (decide (GoodSup p i c))) w := by
 refine enter0 Tryz.func61 rfl Tryz.ntmps61 rfl ?_
 have e8 := @rem8 i
 have q8 := @quo8 i
 simp only [envOf]
 refine tR (At.box rfl rfl rfl (fun b1 => (tA rfl rfl (tE (At.seq (tR (tV (Val.field 0 rfl fo_23_0 rfl) rfl (tV (Val.load (i := 0) Tryz.isAgg3 rfl rfl rfl) rfl (tV (Val.bin rfl rfl rfl) rfl (tM rfl rfl ?_))))))))))
 refine At.split (t := 6) rfl (fun h2 => ?_) (fun h2 => ?_)
 ·try simp only [wI_T, wI_F, notT, notF, bneT, bneF, beqT, beqF, decT, decF] at h2
  refine At.no rfl rfl rfl rfl (At.no rfl rfl rfl rfl (At.no rfl rfl rfl rfl (tV (Val.pickT rfl rfl) rfl (tM rfl rfl (At.no rfl rfl rfl rfl (At.no rfl rfl rfl rfl (At.no rfl rfl rfl rfl (tV (Val.pickT rfl rfl) rfl (tM rfl rfl (At.no rfl rfl rfl rfl (At.no rfl rfl rfl rfl (At.no rfl rfl rfl rfl (tV (Val.pickT rfl rfl) rfl (tE (At.condT rfl (tR (tA rfl rfl (tE (At.retC (At.thenR (At.ret1 (.inl rfl) rfl rfl rfl (fun w hw => ?_))))))))))))))))))))))
  exact ⟨by rw [decide_eq_false (by unfold GoodSup; omega)], hw.mod⟩
 ·try simp only [wI_T, wI_F, notT, notF, bneT, bneF, beqT, beqF, decT, decF] at h2
  refine At.yes rfl rfl (tV (Val.field 0 rfl fo_23_0 rfl) rfl (At.yes rfl rfl (tV (Val.load (i := 0) Tryz.isAgg3 rfl rfl rfl) rfl (At.yes rfl rfl (tV (Val.bin rfl rfl rfl) rfl (tV (Val.pickF rfl rfl) rfl (tM rfl rfl ?_)))))))
  refine At.split (t := 11) rfl (fun h3 => ?_) (fun h3 => ?_)
  ·try simp only [wI_T, wI_F, notT, notF, bneT, bneF, beqT, beqF, decT, decF] at h3
   refine At.no rfl rfl rfl rfl (At.no rfl rfl rfl rfl (At.no rfl rfl rfl rfl (tV (Val.pickT rfl rfl) rfl (tM rfl rfl (At.no rfl rfl rfl rfl (At.no rfl rfl rfl rfl (At.no rfl rfl rfl rfl (tV (Val.pickT rfl rfl) rfl (tE (At.condT rfl (tR (tA rfl rfl (tE (At.retC (At.thenR (At.ret1 (.inl rfl) rfl rfl rfl (fun w hw => ?_)))))))))))))))))
   exact ⟨by rw [decide_eq_false (by unfold GoodSup; omega)], hw.mod⟩
  ·try simp only [wI_T, wI_F, notT, notF, bneT, bneF, beqT, beqF, decT, decF] at h3
   refine At.yes rfl rfl (tV (Val.field 2 rfl fo_23_2 rfl) rfl (At.yes rfl rfl (tV (Val.load (i := 0) Tryz.isAgg3 rfl rfl rfl) rfl (At.yes rfl rfl (tV (Val.bin rfl rfl rfl) rfl (tV (Val.pickF rfl rfl) rfl (tM rfl rfl ?_)))))))
   refine At.split (t := 16) rfl (fun h4 => ?_) (fun h4 => ?_)
   ·try simp only [wI_T, wI_F, notT, notF, bneT, bneF, beqT, beqF, decT, decF] at h4
    refine At.no rfl rfl rfl rfl (At.no rfl rfl rfl rfl (At.no rfl rfl rfl rfl (tV (Val.pickT rfl rfl) rfl (tE (At.condT rfl (tR (tA rfl rfl (tE (At.retC (At.thenR (At.ret1 (.inl rfl) rfl rfl rfl (fun w hw => ?_))))))))))))
    exact ⟨by rw [decide_eq_false (by unfold GoodSup; omega)], hw.mod⟩
   ·try simp only [wI_T, wI_F, notT, notF, bneT, bneF, beqT, beqF, decT, decF] at h4
    refine At.yes rfl rfl (tV (Val.field 2 rfl fo_23_2 rfl) rfl (At.yes rfl rfl (tV (Val.load (i := 0) Tryz.isAgg3 rfl rfl rfl) rfl (At.yes rfl rfl (tV (Val.bin rfl rfl rfl) rfl (tV (Val.pickF rfl rfl) rfl (tE ?_)))))))
    refine At.cond rfl (fun h5 => ?_) (fun h5 => ?_)
    ·try simp only [wI_T, wI_F, notT, notF, bneT, bneF, beqT, beqF, decT, decF] at h5
     refine tR (tA rfl rfl (tE (At.retC (At.thenR (At.ret1 (.inl rfl) rfl rfl rfl (fun w hw => ?_))))))
     exact ⟨by rw [decide_eq_false (by unfold GoodSup; omega)], hw.mod⟩
    ·try simp only [wI_T, wI_F, notT, notF, bneT, bneF, beqT, beqF, decT, decF] at h5
     refine At.skipC (At.thenN (At.seq (tR (tV (Val.field 1 rfl fo_23_1 rfl) rfl (tV (Val.load (i := 0) Tryz.isAgg3 rfl rfl rfl) rfl (tV (Val.bin rfl rfl rfl) rfl (tM rfl rfl ?_)))))))
     refine At.split (t := 24) rfl (fun h6 => ?_) (fun h6 => ?_)
     ·try simp only [wI_T, wI_F, notT, notF, bneT, bneF, beqT, beqF, decT, decF] at h6
      refine At.no rfl rfl rfl rfl (At.no rfl rfl rfl rfl (At.no rfl rfl rfl rfl (tV (Val.pickT rfl rfl) rfl (tM rfl rfl (At.no rfl rfl rfl rfl (At.no rfl rfl rfl rfl (At.no rfl rfl rfl rfl (At.no rfl rfl rfl rfl (tV (Val.pickT rfl rfl) rfl (tE (At.condT rfl (tR (tA rfl rfl (tE (At.retC (At.thenR (At.ret1 (.inl rfl) rfl rfl rfl (fun w hw => ?_))))))))))))))))))
      exact ⟨by rw [decide_eq_false (by unfold GoodSup; omega)], hw.mod⟩
     ·try simp only [wI_T, wI_F, notT, notF, bneT, bneF, beqT, beqF, decT, decF] at h6
      refine At.yes rfl rfl (tV (Val.field 1 rfl fo_23_1 rfl) rfl (At.yes rfl rfl (tV (Val.load (i := 0) Tryz.isAgg3 rfl rfl rfl) rfl (At.yes rfl rfl (tV (Val.bin rfl rfl rfl) rfl (tV (Val.pickF rfl rfl) rfl (tM rfl rfl ?_)))))))
      refine At.split (t := 29) rfl (fun h7 => ?_) (fun h7 => ?_)
      ·try simp only [wI_T, wI_F, notT, notF, bneT, bneF, beqT, beqF, decT, decF] at h7
       refine At.no rfl rfl rfl rfl (At.no rfl rfl rfl rfl (At.no rfl rfl rfl rfl (At.no rfl rfl rfl rfl (tV (Val.pickT rfl rfl) rfl (tE (At.condT rfl (tR (tA rfl rfl (tE (At.retC (At.thenR (At.ret1 (.inl rfl) rfl rfl rfl (fun w hw => ?_)))))))))))))
       exact ⟨by rw [decide_eq_false (by unfold GoodSup; omega)], hw.mod⟩
      ·try simp only [wI_T, wI_F, notT, notF, bneT, bneF, beqT, beqF, decT, decF] at h7
       refine At.yes rfl rfl (tV (Val.field 1 rfl fo_23_1 rfl) rfl (At.yes rfl rfl (tV (Val.load (i := 0) Tryz.isAgg3 rfl rfl rfl) rfl (At.yes rfl rfl (tV (Val.rem rfl rfl (by decide)) rfl (At.yes rfl rfl (tV (Val.bin rfl rfl rfl) rfl (tV (Val.pickF rfl rfl) rfl (tE ?_)))))))))
       refine At.cond rfl (fun h8 => ?_) (fun h8 => ?_)
       ·try simp only [wI_T, wI_F, notT, notF, bneT, bneF, beqT, beqF, decT, decF] at h8
        refine tR (tA rfl rfl (tE (At.retC (At.thenR (At.ret1 (.inl rfl) rfl rfl rfl (fun w hw => ?_))))))
        exact ⟨by rw [decide_eq_false (by unfold GoodSup; omega)], hw.mod⟩
       ·try simp only [wI_T, wI_F, notT, notF, bneT, bneF, beqT, beqF, decT, decF] at h8
        refine At.skipC (At.thenN (tR (tV (Val.field 0 rfl fo_23_0 rfl) rfl (tV (Val.load (i := 0) Tryz.isAgg3 rfl rfl rfl) rfl (tV (Val.bin rfl rfl rfl) rfl (tV (Val.field 1 rfl fo_23_1 rfl) rfl (tV (Val.load (i := 0) Tryz.isAgg3 rfl rfl rfl) rfl (tV (Val.quo rfl rfl (by decide)) rfl (tV (Val.bin rfl rfl rfl) rfl (tV (Val.bin rfl rfl rfl) rfl (tA rfl rfl (tE (At.retC (At.ret1 (.inl rfl) rfl rfl rfl (fun w hw => ?_)))))))))))))))
        exact ⟨by rw [wrap_i64 (n := p - 4) (by omega) (by omega), quo8 (by omega), wrap_i64 (n := i / 8) (by omega) (by omega), wrap_i64 (by omega) (by omega)]; refine retB (Bool.eq_iff_iff.2 ?_); simp only [decide_eq_true_eq]; unfold GoodSup; omega, hw.mod⟩
theorem fitR_p (p i c : Int) (w : World) (hp : -9223372036854775808 ≤ p ∧ p ≤ 9223372036854775807) :
    PureC Tryz.prog 33 [.agg #[.int .i64 p, .int .i64 i, .int .i64 c]] (fitV p i c) w := by
 refine enter0 Tryz.func33 rfl Tryz.ntmps33 rfl ?_
 have e8 := @rem8 i
 have q8 := @quo8 i
 simp only [envOf]
 refine tR (At.box rfl rfl rfl (fun b1 => (At.alloc Tryz.zeroValue31 rfl rfl (fun b2 => (tA rfl rfl (tE (At.seq (tR (tV (Val.loadAll (i := 1) Tryz.isAgg23 Tryz.sizeOf23 rfl rfl rfl) rfl (At.callP (fun w hw => goodSup_p _ _ _ w hp) Tryz.call61 rfl rfl (tV (Val.not rfl) rfl (tE ?_))))))))))))
 refine At.cond rfl (fun h3 => ?_) (fun h3 => ?_)
 ·try simp only [wI_T, wI_F, notT, notF, bneT, bneF, beqT, beqF, decT, decF] at h3
  refine tR ?_
  refine tV (Val.build (fun a ha => by simp only [List.map_toArray, List.map_cons, List.map_nil] <;> rfl) (bld_31_)) rfl (At.storeAll (i := 0) Tryz.sizeOf31 rfl rfl rfl (by simp [Value.oneCell']) rfl rfl ?_)
  simp only [sc0, scS]
  refine tA rfl rfl (tE (At.retC (At.thenR (At.ret2 (.inl rfl) rfl rfl (ResOf.all (i := 0) Tryz.isAgg31 Tryz.sizeOf31 rfl rfl rfl) rfl (fun w hw => ?_)))))
  exact ⟨by rw [fit_no ‹¬ GoodSup p i c›], hw.mod⟩
 ·try simp only [wI_T, wI_F, notT, notF, bneT, bneF, beqT, beqF, decT, decF] at h3
  refine At.skipC (At.thenN (tR (tV (Val.field 0 rfl fo_23_0 rfl) rfl (tV (Val.load (i := 1) Tryz.isAgg3 rfl rfl rfl) rfl (tV (Val.field 1 rfl fo_23_1 rfl) rfl (tV (Val.load (i := 1) Tryz.isAgg3 rfl rfl rfl) rfl (tV (Val.field 2 rfl fo_23_2 rfl) rfl (tV (Val.load (i := 1) Tryz.isAgg3 rfl rfl rfl) rfl (tV (Val.field 1 rfl fo_23_1 rfl) rfl (tV (Val.load (i := 1) Tryz.isAgg3 rfl rfl rfl) rfl ?_))))))))))
  have hg : GoodSup p i c := ‹GoodSup p i c›
  have hg' := hg
  unfold GoodSup at hg'
  refine tV (Val.quo rfl rfl (by decide)) rfl ?_
  rw [quo8 (by omega), wrap_i64 (by omega) (by omega)]
  refine tV (Val.bin rfl rfl rfl) rfl ?_
  rw [wrap_i64 (by omega) (by omega)]
  refine tV (Val.build (fun a ha => by simp only [List.map_toArray, List.map_cons, List.map_nil, ha.eval (x := (.tmp 9)) rfl, ha.eval (x := (.tmp 11)) rfl, ha.eval (x := (.tmp 13)) rfl, ha.eval (x := (.tmp 17)) rfl] <;> rfl) (bld_31_0_1_2_3 _ _ _ _ )) rfl (At.storeAll (i := 0) Tryz.sizeOf31 rfl rfl rfl (by simp [Value.oneCell']) rfl rfl ?_)
  simp only [sc0, scS]
  refine tA rfl rfl (tE (At.retC (At.ret2 (.inl rfl) rfl rfl (ResOf.all (i := 0) Tryz.isAgg31 Tryz.sizeOf31 rfl rfl rfl) rfl (fun w hw => ?_))))
  exact ⟨by rw [fit_yes hg], hw.mod⟩
theorem inodeR_p (n : Int) (w : World) :
    PureC Tryz.prog 172 [.int .i64 n] (.bool (isInoB n)) w := by
 refine enter0 Tryz.func172 rfl Tryz.ntmps172 rfl ?_
 simp only [envOf]
 refine tR (tA rfl rfl (tE (tR (tM rfl rfl (tV (Val.bin rfl rfl rfl) rfl (tM rfl rfl ?_))))))
 refine At.split (t := 5) rfl (fun h1 => ?_) (fun h1 => ?_)
 ·refine At.yes rfl rfl (tM rfl rfl (At.yes rfl rfl (tV (Val.bin rfl rfl rfl) rfl (tV (Val.pickT rfl rfl) rfl (tA rfl rfl (tE (At.retC (At.ret1 (.inl rfl) rfl rfl rfl (fun w hw => ?_)))))))))
  exact ⟨by refine retB (Bool.eq_iff_iff.2 ?_); simp only [decide_eq_true_eq, ino_T]; simp at h1; omega, hw.mod⟩
 ·refine At.no rfl rfl rfl rfl (At.no rfl rfl rfl rfl (tV (Val.pickF rfl rfl) rfl (tA rfl rfl (tE (At.retC (At.ret1 (.inl rfl) rfl rfl rfl (fun w hw => ?_)))))))
  exact ⟨by refine retB (Eq.symm ?_); rw [ino_F]; simp at h1; omega, hw.mod⟩
theorem slotAtR_p (n : Int) (w : World) :
    PureC Tryz.prog 136 [.int .i64 n] (.int .i64 (slotAt n)) w := by
 refine enter0 Tryz.func136 rfl Tryz.ntmps136 rfl ?_
 simp only [envOf]
 refine tR (tA rfl rfl (tE (At.seq (tR (tM rfl rfl (At.callP (fun w hw => inodeR_p _ w) Tryz.call172 rfl rfl (tV (Val.not rfl) rfl (tE ?_))))))))
 refine At.cond rfl (fun h1 => ?_) (fun h1 => ?_)
 ·try simp only [notT, notF] at h1
  refine tR (tA rfl rfl (tE (At.retC (At.thenR (At.ret1 (.inl rfl) rfl rfl rfl (fun w hw => ?_))))))
  exact ⟨by rw [slotAt_F h1], hw.mod⟩
 ·try simp only [notT, notF] at h1
  refine At.skipC (At.thenN (tR (tM rfl rfl (tV (Val.bin rfl rfl rfl) rfl (tV (Val.bin rfl rfl rfl) rfl (tV (Val.bin rfl rfl rfl) rfl (tA rfl rfl (tE (At.retC (At.ret1 (.inl rfl) rfl rfl rfl (fun w hw => ?_)))))))))))
  exact ⟨by rw [slotAt_T h1]; have h2 := ino_T.1 h1; refine retI ?_; rw [wrap_i64 (n := n - 1) (by omega) (by omega), wrap_i64 (n := 64 * (n - 1)) (by omega) (by omega), wrap_i64 (by omega) (by omega)], hw.mod⟩
end Go.Proofs.YtfchinibjhcejaaGreatDoor
namespace Go.Proofs.YtfchinibjhcejaaGreatDoor
open Go Go.Wk
theorem sumOn_p (s : BitVec 32) (A : Option Addr) (l : List UInt8) (c : Nat) (w : World) (hb : Bytes w A l) (ht : Tab w) (hlen : l.length ≤ 140737488355328) :
    PureC Tryz.prog 110 [b32 s, .slice A l.length c] (b32 (sumOn s l)) w := by
 refine enter0 Tryz.func110 rfl Tryz.ntmps110 rfl ?_
 simp only [envOf]
 refine tR (tA rfl rfl (tE (tR (tM rfl rfl (tV (Val.com rfl) rfl (tA rfl rfl (tE (At.seq (tR (tM rfl rfl (tV (Val.len (bt := #[]) Tryz.underlying29 rfl) rfl (tM rfl rfl (tE (At.block ?_))))))))))))))
 skip
 refine At.loop (σ := Nat) (fun k => k ≤ l.length) (fun k => [(5, b32 (crc (~~~s) (l.take k))), (10, .slice A l.length c), (11, .int .i64 l.length), (12, .int .i64 k)]) (fun k => []) (fun k => l.length - k) 0 (Nat.zero_le _) (Sub.cons (congrArg (fun z => some (Value.int IntKind.u32 z)) (com32 s)) (Sub.cons rfl (Sub.cons rfl (Sub.cons rfl Sub.nil)))) (List.Perm.refl _) ?_
 intro k hs
 refine tR (tV (Val.bin rfl rfl rfl) rfl (tE (At.seq ?_)))
 refine At.cond rfl (fun h1 => ?_) (fun h1 => ?_)
 ·have hk : k < l.length := by simpa using h1
  obtain ⟨c', hc'⟩ : ∃ c', l[k]? = some c' := ⟨_, List.getElem?_eq_getElem hk⟩
  obtain ⟨b, o, rfl, hcell⟩ := hb k c' hc'
  refine At.skipC (At.thenN (At.seq (At.block (tR (tV (Val.indexSl (o + k) (by simp) Tryz.underlying29 Tryz.sizeOf5 rfl rfl (by omega) (by omega)) rfl (tV (Val.loadOld Tryz.isAgg5 rfl hcell (fun h => h)) rfl (tA rfl rfl (tE (tR (tM rfl rfl (tM rfl rfl (tV (Val.conv Tryz.underlying5 Tryz.underlying106 rfl) rfl (tV (Val.bin rfl rfl rfl) rfl (tA rfl rfl (At.nil (At.weaken [(5, b32 ((crc (~~~s) (l.take k)) ^^^ BitVec.ofNat 32 c'.toNat)), (10, .slice (some ⟨b, o, none⟩) l.length c), (11, .int .i64 l.length), (12, .int .i64 k)] (Sub.cons (congrArg (fun z => some (Value.int IntKind.u32 z)) (by rw [wrap_u32_nat, xor32])) (Sub.cons rfl (Sub.cons rfl (Sub.cons rfl Sub.nil)))) (At.thenN (tR (tM rfl rfl (tV (Val.bin rfl rfl rfl) rfl ?_))))))))))))))))))))
  refine tV (Val.indexArr (((crc (~~~s) (l.take k)) ^^^ BitVec.ofNat 32 c'.toNat) &&& 15).toNat (by rw [and15 ((crc (~~~s) (l.take k)) ^^^ BitVec.ofNat 32 c'.toNat)]; simp) Tryz.underlying200 Tryz.sizeOf106 rfl rfl (by rw [and15 ((crc (~~~s) (l.take k)) ^^^ BitVec.ofNat 32 c'.toNat)]; omega) (by rw [and15 ((crc (~~~s) (l.take k)) ^^^ BitVec.ofNat 32 c'.toNat)]; have := and15_lt ((crc (~~~s) (l.take k)) ^^^ BitVec.ofNat 32 c'.toNat); omega)) rfl (tV (Val.loadOld Tryz.isAgg106 rfl (ht _ (and15_lt ((crc (~~~s) (l.take k)) ^^^ BitVec.ofNat 32 c'.toNat))) (fun h => h)) rfl (tM rfl rfl (tV (Val.shr rfl rfl (by decide)) rfl (tV (Val.bin rfl rfl rfl) rfl (tA rfl rfl (At.nil ?_))))))
  refine At.weaken [(5, b32 (step4 ((crc (~~~s) (l.take k)) ^^^ BitVec.ofNat 32 c'.toNat))), (10, .slice (some ⟨b, o, none⟩) l.length c), (11, .int .i64 l.length), (12, .int .i64 k)] (Sub.cons (congrArg (fun z => some (Value.int IntKind.u32 z)) (by rw [show (((crc (~~~s) (l.take k)) ^^^ BitVec.ofNat 32 c'.toNat).toNat : Int).fdiv (2 ^ min (4 : Int).toNat IntKind.u32.bits) = (((crc (~~~s) (l.take k)) ^^^ BitVec.ofNat 32 c'.toNat) >>> 4).toNat from shr32 _ 4 (by decide), xor32]; rfl)) (Sub.cons rfl (Sub.cons rfl (Sub.cons rfl Sub.nil)))) (At.thenN (At.region (tM rfl rfl (tV (Val.bin rfl rfl rfl) rfl ?_))))
  refine tV (Val.indexArr ((step4 ((crc (~~~s) (l.take k)) ^^^ BitVec.ofNat 32 c'.toNat)) &&& 15).toNat (by rw [and15 (step4 ((crc (~~~s) (l.take k)) ^^^ BitVec.ofNat 32 c'.toNat))]; simp) Tryz.underlying200 Tryz.sizeOf106 rfl rfl (by rw [and15 (step4 ((crc (~~~s) (l.take k)) ^^^ BitVec.ofNat 32 c'.toNat))]; omega) (by rw [and15 (step4 ((crc (~~~s) (l.take k)) ^^^ BitVec.ofNat 32 c'.toNat))]; have := and15_lt (step4 ((crc (~~~s) (l.take k)) ^^^ BitVec.ofNat 32 c'.toNat)); omega)) rfl (tV (Val.loadOld Tryz.isAgg106 rfl (ht _ (and15_lt (step4 ((crc (~~~s) (l.take k)) ^^^ BitVec.ofNat 32 c'.toNat)))) (fun h => h)) rfl (tM rfl rfl (tV (Val.shr rfl rfl (by decide)) rfl (tV (Val.bin rfl rfl rfl) rfl (tA rfl rfl (At.nil ?_))))))
  refine At.weaken [(5, b32 (crc (~~~s) (l.take (k + 1)))), (10, .slice (some ⟨b, o, none⟩) l.length c), (11, .int .i64 l.length), (12, .int .i64 k)] (Sub.cons (congrArg (fun z => some (Value.int IntKind.u32 z)) (by rw [show ((step4 ((crc (~~~s) (l.take k)) ^^^ BitVec.ofNat 32 c'.toNat)).toNat : Int).fdiv (2 ^ min (4 : Int).toNat IntKind.u32.bits) = ((step4 ((crc (~~~s) (l.take k)) ^^^ BitVec.ofNat 32 c'.toNat)) >>> 4).toNat from shr32 _ 4 (by decide), xor32]; rw [crc_take_succ _ _ _ _ hc']; rfl)) (Sub.cons rfl (Sub.cons rfl (Sub.cons rfl Sub.nil)))) (At.blkN (At.thenN (At.region (tV (Val.bin rfl rfl rfl) rfl (tM rfl rfl (tE ?_))))))
  exact At.again (k + 1) (by omega) (by omega) (Sub.cons rfl (Sub.cons rfl (Sub.cons rfl (Sub.cons (by rw [wrap_i64 (by omega) (by omega)]; rfl) Sub.nil)))) (List.Perm.refl _)
 ·have hk : k = l.length := by have := h1; simp at this; omega
  refine At.exitC (At.thenX (At.thenX (At.blkX (At.thenN (tR (tM rfl rfl (tV (Val.com rfl) rfl (tA rfl rfl (tE (At.retC (At.ret1 (.inl rfl) rfl rfl rfl (fun w hw => ?_))))))))))))
  exact ⟨by rw [com32, hk, List.take_length]; rfl, hw.mod⟩
theorem sum_p (A : Option Addr) (l : List UInt8) (c : Nat) (w : World) (hb : Bytes w A l) (ht : Tab w) (hlen : l.length ≤ 140737488355328) :
    PureC Tryz.prog 75 [.slice A l.length c] (b32 (sumOn 0 l)) w := by
 refine enter0 Tryz.func75 rfl Tryz.ntmps75 rfl ?_
 simp only [envOf]
 refine tR (tA rfl rfl (tE (tR (tM rfl rfl (At.callP (fun w hw => sumOn_p 0 _ _ _ w (hb.mod hw.mod) (ht.mod hw.mod) hlen) Tryz.call110 rfl rfl (tA rfl rfl (tE (At.retC (At.ret1 (.inl rfl) rfl rfl rfl (fun w hw => ?_))))))))))
 exact ⟨rfl, hw.mod⟩
theorem sum_n (A : Option Addr) (l : List UInt8) (n c : Nat) (w : World) (hn : l.length = n) (hb : Bytes w A l) (ht : Tab w) (hlen : n ≤ 140737488355328) : PureC Tryz.prog 75 [.slice A n c] (b32 (sumOn 0 l)) w := by
  subst hn; exact sum_p A l c w hb ht hlen
theorem sumOn_n (s : BitVec 32) (A : Option Addr) (l : List UInt8) (n c : Nat) (w : World) (hn : l.length = n) (hb : Bytes w A l) (ht : Tab w) (hlen : n ≤ 140737488355328) : PureC Tryz.prog 110 [b32 s, .slice A n c] (b32 (sumOn s l)) w := by
  subst hn; exact sumOn_p s A l c w hb ht hlen
end Go.Proofs.YtfchinibjhcejaaGreatDoor
namespace Go.Proofs.YtfchinibjhcejaaGreatDoor
open Go Go.Wk
theorem lay_p (x : BitVec 64) (w : World) :
    PureC Tryz.prog 77 [b64 x] (.agg ((le 8 x.toNat).map bv).toArray) w := by
 refine enter0 Tryz.func77 rfl Tryz.ntmps77 rfl ?_
 simp only [envOf]
 refine tR (At.alloc zero_148 zc_148 rfl (fun b1 => (tE (tR (At.alloc zero_148 zc_148 rfl (fun b2 => (tE (At.seq (tR (tM rfl rfl (tE (At.block ?_))))))))))))
 skip
 refine At.loop (σ := Nat) (fun k => k ≤ 8) (fun k => [(0, b64 x), (2, .pointer (some ⟨b1, 0, none⟩)), (3, .pointer (some ⟨b2, 0, none⟩)), (5, .int .i64 k)]) (fun k => [blk b2 148 ((fillTo (le 8 x.toNat) (zs 8) k).map bv), blk b1 148 (List.replicate 8 (Value.int .u8 0))]) (fun k => 8 - k) 0 (by omega) (Sub.cons rfl (Sub.cons rfl (Sub.cons rfl (Sub.cons rfl Sub.nil)))) (List.Perm.refl _) ?_
 intro k hs
 refine tR (tV (Val.bin rfl rfl rfl) rfl (tE (At.seq ?_)))
 refine At.cond rfl (fun h3 => ?_) (fun h3 => ?_)
 ·have hk : k < 8 := by have := h3; simp at this; omega
  have e8 : (8 * (k : Int)).toNat = 8 * k := by omega
  have hc := le_get 8 x.toNat k hk
  refine At.skipC (At.thenN (At.seq (At.block (tR (tM rfl rfl (tA rfl rfl (tE (At.region (tM rfl rfl (tM rfl rfl (tM rfl rfl (tV (Val.bin rfl rfl rfl) rfl ?_))))))))))))
  refine tV (Val.shr rfl rfl (by rw [wrap_i64 (by omega) (by omega)]; omega)) rfl (tV (Val.conv Tryz.underlying43 Tryz.underlying5 rfl) rfl (tV (Val.indexArr k (by simp) Tryz.underlying148 Tryz.sizeOf5 rfl rfl (by omega) (by omega)) rfl (At.store (i := 0) (v := bv (UInt8.ofNat (x.toNat / 256 ^ k))) Tryz.sizeOf5 rfl (congrArg (fun z => some (Value.int IntKind.u8 z)) (by rw [show IntKind.i64.wrap (8 * (k : Int)) = ((8 * k : Nat) : Int) from by rw [wrap_i64 (by omega) (by omega)]; omega, Int.toNat_natCast, show IntKind.u64.bits = 64 from rfl, shr64 x (8 * k) (by omega), wrap_u8_nat, bit_shift_div, pow_256])) rfl rfl (by rw [fill_len (by simp [le_length, zs_length]), le_length]; exact hk) ?_)))
  simp only [sc0, scS]
  rw [fill_step hc (by simp [le_length, zs_length])]
  refine At.nil (At.blkN (At.thenN (At.region (tV (Val.bin rfl rfl rfl) rfl (tM rfl rfl (tE ?_))))))
  exact At.again (k + 1) (by omega) (by omega) (Sub.cons rfl (Sub.cons rfl (Sub.cons rfl (Sub.cons (congrArg (fun z => some (Value.int IntKind.i64 z)) (wrap_i64 (by omega) (by omega))) Sub.nil)))) (List.Perm.refl _)
 ·have hk : k = 8 := by have := h3; simp at this; omega
  refine At.exitC (At.thenX (At.thenX (At.blkX (At.thenN (tR (tV (Val.loadAll (i := 0) Tryz.isAgg148 Tryz.sizeOf148 rfl rfl (by rw [fill_len (by simp [le_length, zs_length]), le_length])) rfl (At.storeAll (i := 1) Tryz.sizeOf148 rfl rfl (by rw [fill_len (by simp [le_length, zs_length]), le_length]) (by simp [Value.oneCell']) rfl (by simp) ?_)))))))
  simp only [sc0, scS]
  refine tE (At.retC (At.ret1 (.inl rfl) rfl rfl (ResOf.all (i := 1) Tryz.isAgg148 Tryz.sizeOf148 rfl rfl (by rw [fill_len (by simp [le_length, zs_length]), le_length])) (fun w hw => ?_)))
  exact ⟨by rw [hk, fillTo_all (le_length 8 _) (zs_length 8)], hw.mod⟩
theorem check_p (a : Int) (v : BitVec 32) (w : World) (ht : Tab w) :
    PureC Tryz.prog 92 [.int .i64 a, b32 v] (b32 (checkW (BitVec.ofInt 64 a) v)) w := by
 refine enter0 Tryz.func92 rfl Tryz.ntmps92 rfl ?_
 simp only [envOf]
 refine tR (tA rfl rfl (At.nil (At.weaken [(0, .int .i64 a), (1, b32 v), (4, .int .u32 0)] (Sub.cons rfl (Sub.cons rfl (Sub.cons rfl Sub.nil))) (At.thenN (tR (tM rfl rfl (tV (Val.conv Tryz.underlying3 Tryz.underlying43 rfl) rfl ?_)))))))
 rw [wrap_u64_int]
 refine At.callP (fun w hw => lay_p (BitVec.ofInt 64 a) w) Tryz.call77 rfl rfl (At.alloc zero_148 zc_148 rfl (fun b1 => (At.storeAll (i := 0) Tryz.sizeOf148 rfl rfl (by simp [le_length]) (by simp [Value.oneCell']) rfl (by simp) ?_)))
 simp only [sc0, scS]
 refine tE (tR (tM rfl rfl (tV (Val.conv Tryz.underlying106 Tryz.underlying43 rfl) rfl ?_)))
 rw [u64_of32]
 refine At.callP (fun w hw => lay_p _ w) Tryz.call77 rfl rfl (At.alloc zero_148 zc_148 rfl (fun b2 => (At.storeAll (i := 0) Tryz.sizeOf148 rfl rfl (by simp [le_length]) (by simp [Value.oneCell']) rfl (by simp) ?_)))
 simp only [sc0, scS]
 refine tE (At.seq (At.quiet rfl (by decide +kernel) (qV (Val.cutArr 0 8 0 8 8 Tryz.underlying148 Tryz.sizeOf5 rfl rfl rfl (by decide) (by decide) rfl rfl rfl) rfl (QAt.callP (fun w hw => sum_n _ (le 8 (BitVec.ofInt 64 a).toNat) 8 8 w (le_length ..) (hw.blk (i := 1) rfl).bytes' (ht.mod hw.mod) (by decide)) Tryz.call75 rfl rfl (qV (Val.cutArr 0 4 0 4 8 Tryz.underlying148 Tryz.sizeOf5 rfl rfl ⟨_, _, rfl, by decide, rfl⟩ (by decide) (by decide) rfl rfl rfl) rfl ?_)))))
 refine QAt.callP (fun w hw => sumOn_n _ _ (le 4 v.toNat) 4 8 w (le_length ..) (by have := ((hw.blk (i := 0) rfl).bytes').take 4; rw [le_take (by decide), BitVec.toNat_setWidth, Nat.mod_eq_of_lt (by have := v.isLt; omega)] at this; exact this) (ht.mod hw.mod) (by decide)) Tryz.call110 rfl rfl (qV (Val.assign rfl) rfl (QAt.fin (At.thenN (At.retC (At.ret1 (.inl rfl) rfl rfl rfl (fun w hw => ?_))))))
 exact ⟨by rw [sumOn_append]; rfl, hw.mod⟩
theorem seal_p (a : Int) (v : BitVec 32) (w : World) (ht : Tab w) :
    PureC Tryz.prog 51 [.int .i64 a, b32 v] (b64 (sealW (BitVec.ofInt 64 a) v)) w := by
 refine enter0 Tryz.func51 rfl Tryz.ntmps51 rfl ?_
 simp only [envOf]
 refine tR (tA rfl rfl (tE (At.seq (tR (tM rfl rfl (tV (Val.bin rfl rfl rfl) rfl (tE ?_)))))))
 refine At.cond rfl (fun h1 => ?_) (fun h1 => ?_)
 ·refine tR (tA rfl rfl (tE (At.retC (At.thenR (At.ret1 (.inl rfl) rfl rfl rfl (fun w hw => ?_))))))
  exact ⟨by rw [seal_zero (by have := h1; simp at this; exact BitVec.eq_of_toNat_eq (by simpa using this))]; rfl, hw.mod⟩
 ·refine At.skipC (At.thenN (tR (tM rfl rfl (tM rfl rfl (At.callP (fun w hw => check_p _ _ w (ht.mod hw.mod)) Tryz.call92 rfl rfl (tV (Val.conv Tryz.underlying106 Tryz.underlying43 rfl) rfl ?_))))))
  rw [u64_of32]
  refine tV (Val.shl rfl rfl (by decide)) rfl ?_
  rw [show IntKind.u64.wrap ((((checkW (BitVec.ofInt 64 a) v).setWidth 64).toNat : Int) * 2 ^ min (32 : Int).toNat IntKind.u64.bits) = ((((checkW (BitVec.ofInt 64 a) v).setWidth 64) <<< 32).toNat : Int) from shl64 _ 32 (by decide)]
  refine tM rfl rfl (tV (Val.conv Tryz.underlying106 Tryz.underlying43 rfl) rfl ?_)
  rw [u64_of32]
  refine tV (Val.bin rfl rfl rfl) rfl ?_
  rw [or64]
  refine tA rfl rfl (tE (At.retC (At.ret1 (.inl rfl) rfl rfl rfl (fun w hw => ?_))))
  exact ⟨by rw [seal_some (by intro e; subst e; simp at h1)], hw.mod⟩
theorem unseal_p (a : Int) (x : BitVec 64) (w : World) (ht : Tab w) :
    PureC Tryz.prog 109 [.int .i64 a, b64 x] (unsealV (BitVec.ofInt 64 a) x) w := by
 refine enter0 Tryz.func109 rfl Tryz.ntmps109 rfl ?_
 simp only [envOf]
 refine tR (tA rfl rfl (tA rfl rfl (tE (tR (tM rfl rfl (tV (Val.conv Tryz.underlying43 Tryz.underlying106 rfl) rfl ?_))))))
 rw [conv_u32_64]
 refine tA rfl rfl (tE (At.seq (tR (tM rfl rfl (tM rfl rfl (At.callP (fun w hw => seal_p _ _ w (ht.mod hw.mod)) Tryz.call51 rfl rfl (tM rfl rfl (tV (Val.bin rfl rfl rfl) rfl (tE ?_)))))))))
 refine At.cond rfl (fun h1 => ?_) (fun h1 => ?_)
 ·refine tR (tA rfl rfl (tA rfl rfl (tE (At.retC (At.thenR (At.ret2 (.inl rfl) rfl rfl rfl rfl (fun w hw => ?_)))))))
  exact ⟨by rw [unseal_no (bv_ne64 h1)], hw.mod⟩
 ·refine At.skipC (At.thenN (tR (tM rfl rfl (tA rfl rfl (tA rfl rfl (tE (At.retC (At.ret2 (.inl rfl) rfl rfl rfl rfl (fun w hw => ?_)))))))))
  exact ⟨by rw [unseal_yes (bv_eq64 h1)], hw.mod⟩
theorem close_p (l : List UInt8) (w : World) (hl : l.length = 64) (ht : Tab w) :
    PureC Tryz.prog 137 [.agg (l.map bv).toArray] (.agg ((closeL l).map bv).toArray) w := by
 refine enter0 Tryz.func137 rfl Tryz.ntmps137 rfl ?_
 simp only [envOf]
 refine tR (At.box rfl rfl rfl (fun b1 => (At.alloc zero_82 zc_82 rfl (fun b2 => (tE (tR (tV (Val.cutArr 0 60 0 60 64 Tryz.underlying82 Tryz.sizeOf5 rfl rfl ⟨_, _, rfl, by decide, rfl⟩ (by decide) (by decide) rfl rfl rfl) rfl (At.callP (fun w hw => sum_n _ (l.take 60) 60 64 w (by simp [hl]) ((hw.blk (i := 1) rfl).bytes'.take 60) (ht.mod hw.mod) (by decide)) Tryz.call75 rfl rfl (tA rfl rfl (tE (At.seq (tR (tM rfl rfl (tE (At.block ?_)))))))))))))))
 skip
 refine At.loop (σ := Nat) (fun k => k ≤ 4) (fun k => [(1, .pointer (some ⟨b1, 0, none⟩)), (2, .pointer (some ⟨b2, 0, none⟩)), (3, b32 (sumOn 0 (l.take 60))), (7, .int .i64 k)]) (fun k => [blk b2 82 (List.replicate 64 (Value.int .u8 0)), blk b1 82 ((fillTo (closeL l) l (60 + k)).map bv)]) (fun k => 4 - k) 0 (by omega) (Sub.cons rfl (Sub.cons rfl (Sub.cons rfl (Sub.cons rfl Sub.nil)))) (by rw [show 60 + 0 = 60 from rfl, closeL_fill hl]) ?_
 intro k hs
 refine tR (tV (Val.bin rfl rfl rfl) rfl (tE (At.seq ?_)))
 refine At.cond rfl (fun h3 => ?_) (fun h3 => ?_)
 ·have hk : k < 4 := by have := h3; simp at this; omega
  have hc := closeL_get (k := k) hl hk
  refine At.skipC (At.thenN (At.seq (At.block (tR (tM rfl rfl (tA rfl rfl (tE (At.region (tM rfl rfl (tV (Val.bin rfl rfl rfl) rfl ?_))))))))))
  rw [wrap_i64 (n := 60 + (k : Int)) (by omega) (by omega)]
  refine tM rfl rfl (tM rfl rfl (tV (Val.bin rfl rfl rfl) rfl ?_))
  rw [wrap_i64 (n := 8 * (k : Int)) (by omega) (by omega)]
  refine tV (Val.shr rfl rfl (by omega)) rfl (tV (Val.conv Tryz.underlying106 Tryz.underlying5 rfl) rfl (tV (Val.indexArr (60 + k) (by omega) Tryz.underlying82 Tryz.sizeOf5 rfl rfl (by omega) (by omega)) rfl (At.store (i := 1) (v := bv (UInt8.ofNat ((sumOn 0 (l.take 60)).toNat / 256 ^ k))) Tryz.sizeOf5 rfl (congrArg (fun z => some (Value.int IntKind.u8 z)) (by rw [show (8 * (k : Int)).toNat = 8 * k by omega, show IntKind.u32.bits = 32 from rfl, shr32 _ (8 * k) (by omega), wrap_u8_nat, shr32_div, pow_256])) rfl rfl (by rw [fill_len (by rw [closeL_length hl, hl]), closeL_length hl]; omega) ?_)))
  simp only [sc0, scS]
  rw [fill_step hc (by rw [closeL_length hl, hl])]
  refine At.nil (At.blkN (At.thenN (At.region (tV (Val.bin rfl rfl rfl) rfl (tM rfl rfl (tE ?_))))))
  exact At.again (k + 1) (by omega) (by omega) (Sub.cons rfl (Sub.cons rfl (Sub.cons rfl (Sub.cons (congrArg (fun z => some (Value.int IntKind.i64 z)) (wrap_i64 (by omega) (by omega))) Sub.nil)))) (List.Perm.refl _)
 ·have hk : k = 4 := by have := h3; simp at this; omega
  refine At.exitC (At.thenX (At.thenX (At.blkX (At.thenN (tR (tV (Val.loadAll (i := 1) Tryz.isAgg82 Tryz.sizeOf82 rfl rfl (by rw [fill_len (by rw [closeL_length hl, hl]), closeL_length hl])) rfl (At.storeAll (i := 0) Tryz.sizeOf82 rfl rfl (by rw [fill_len (by rw [closeL_length hl, hl]), closeL_length hl]) (by simp [Value.oneCell']) rfl (by simp) ?_)))))))
  simp only [sc0, scS]
  refine tE (At.retC (At.ret1 (.inl rfl) rfl rfl (ResOf.all (i := 0) Tryz.isAgg82 Tryz.sizeOf82 rfl rfl (by rw [fill_len (by rw [closeL_length hl, hl]), closeL_length hl])) (fun w hw => ?_)))
  exact ⟨by rw [hk, fill_done hl], hw.mod⟩
theorem whole_p (l : List UInt8) (w : World) (hl : l.length = 64) (ht : Tab w) :
    PureC Tryz.prog 104 [.agg (l.map bv).toArray] (.bool (wholeB l)) w := by
 refine enter0 Tryz.func104 rfl Tryz.ntmps104 rfl ?_
 simp only [envOf]
 refine tR (At.box rfl rfl rfl (fun b1 => (tA rfl rfl (tE (At.seq (At.quiet rfl (by decide +kernel) ?_))))))
 refine qV (Val.loadAll (i := 0) Tryz.isAgg82 Tryz.sizeOf82 rfl rfl (by rw [List.length_map]; exact hl)) rfl (QAt.callP (fun w hw => close_p _ w hl (ht.mod hw.mod)) Tryz.call137 rfl rfl ?_)
 refine qV (Val.loadAll (i := 0) Tryz.isAgg82 Tryz.sizeOf82 rfl rfl (by rw [List.length_map]; exact hl)) rfl (qV (Val.eqAgg Tryz.eqGuardType82 (fun w => run_equal_bytes Tryz.underlying82 Tryz.underlying5 Tryz.isAgg5 Tryz.sizeOf5 _ _ (closeL_length hl) hl w) rfl rfl) rfl (qV (Val.assign rfl) rfl (QAt.fin (At.thenN (At.retC (At.ret1 (.inl rfl) rfl rfl rfl (fun w hw => ?_)))))))
 exact ⟨rfl, hw.mod⟩
end Go.Proofs.YtfchinibjhcejaaGreatDoor
namespace Go.Proofs.YtfchinibjhcejaaGreatDoor
open Go Go.Wk
theorem and1 (x : BitVec 32) : ib .and .u32 (x.toNat : Int) 1 = ((x &&& 1).toNat : Int) := and32 x 1
theorem xorp (x : BitVec 32) : ib .xor .u32 (x.toNat : Int) 3988292384 = ((x ^^^ poly).toNat : Int) := xor32 x poly
theorem bit_T {r : BitVec 32} (h : (((r &&& 1).toNat : Int) == 1) = true) : bit r = (r >>> 1) ^^^ poly := by
  have h' : ((r &&& 1).toNat : Int) = 1 := by simpa using h
  have : (r &&& 1) = 1 := by apply BitVec.eq_of_toNat_eq; show (r &&& 1).toNat = 1; omega
  unfold bit; rw [if_pos this]
theorem bit_F {r : BitVec 32} (h : (((r &&& 1).toNat : Int) == 1) = false) : bit r = r >>> 1 := by
  have : ¬ (r &&& 1) = 1 := by intro e; rw [e] at h; simp at h
  unfold bit; rw [if_neg this]
theorem rsumOn_p (s : BitVec 32) (A : Option Addr) (l : List UInt8) (c : Nat) (w : World) (hb : Bytes w A l) (hlen : l.length ≤ 140737488355328) :
    PureC Tryz.prog 102 [b32 s, .slice A l.length c] (b32 (sumOn s l)) w := by
 refine enter0 Tryz.func102 rfl Tryz.ntmps102 rfl ?_
 simp only [envOf]
 refine tR (tA rfl rfl (tE (tR (tM rfl rfl (tV (Val.com rfl) rfl (tA rfl rfl (tE (At.seq (tR (tA rfl rfl (tE (At.block ?_))))))))))))
 skip
 refine At.loop (σ := Nat) (fun k => k ≤ l.length) (fun k => [(0, b32 s), (1, .slice A l.length c), (5, b32 (crc (~~~s) (l.take k))), (6, .int .i64 k)]) (fun k => []) (fun k => l.length - k) 0 (Nat.zero_le _) (Sub.cons rfl (Sub.cons rfl (Sub.cons (congrArg (fun z => some (Value.int IntKind.u32 z)) (com32 s)) (Sub.cons rfl Sub.nil)))) (List.Perm.refl _) ?_
 intro k hs
 refine At.seq (tR (tM rfl rfl (tM rfl rfl (tV (Val.len (bt := #[]) Tryz.underlying29 rfl) rfl (tV (Val.bin rfl rfl rfl) rfl (tE ?_))))))
 refine At.cond rfl (fun h1 => ?_) (fun h1 => ?_)
 ·have hk : k < l.length := by simpa using h1
  obtain ⟨c', hc'⟩ : ∃ c', l[k]? = some c' := ⟨_, List.getElem?_eq_getElem hk⟩
  obtain ⟨b, o, rfl, hcell⟩ := hb k c' hc'
  refine At.skipC (At.thenN (At.seq (At.block (tR (tM rfl rfl (tM rfl rfl (tM rfl rfl (tV (Val.indexSl (o + k) (by simp) Tryz.underlying29 Tryz.sizeOf5 rfl rfl (by omega) (by omega)) rfl (tV (Val.loadOld Tryz.isAgg5 rfl hcell (fun h => h)) rfl (tV (Val.conv Tryz.underlying5 Tryz.underlying106 rfl) rfl (tV (Val.bin rfl rfl rfl) rfl ?_)))))))))))
  rw [wrap_u32_nat, xor32]
  refine tA rfl rfl (tE (tR (tA rfl rfl (tE (At.block ?_)))))
  skip
  refine At.loop (σ := Nat) (fun j => j ≤ 8) (fun j => [(0, b32 s), (1, .slice (some ⟨b, o, none⟩) l.length c), (5, b32 (bitN j (crc (~~~s) (l.take k) ^^^ BitVec.ofNat 32 c'.toNat))), (6, .int .i64 k), (7, .int .i64 j)]) (fun j => []) (fun j => 8 - j) 0 (by omega) (Sub.cons rfl (Sub.cons rfl (Sub.cons rfl (Sub.cons rfl (Sub.cons rfl Sub.nil))))) (List.Perm.refl _) ?_
  intro j hs
  refine At.seq (tR (tM rfl rfl (tV (Val.bin rfl rfl rfl) rfl (tE ?_))))
  refine At.cond rfl (fun h2 => ?_) (fun h2 => ?_)
  ·have hj : j < 8 := by have := h2; simp at this; omega
   refine At.skipC (At.thenN (At.seq (At.block (tR (tM rfl rfl (tV (Val.bin rfl rfl rfl) rfl ?_))))))
   rw [and1]
   refine tA rfl rfl (tE (tR (tM rfl rfl (tV (Val.shr rfl rfl (by decide)) rfl ?_))))
   rw [show ((bitN j (crc (~~~s) (l.take k) ^^^ BitVec.ofNat 32 c'.toNat)).toNat : Int).fdiv (2 ^ min (1 : Int).toNat IntKind.u32.bits) = ((bitN j (crc (~~~s) (l.take k) ^^^ BitVec.ofNat 32 c'.toNat)) >>> 1).toNat from shr32 _ 1 (by decide)]
   refine tA rfl rfl (tE (tR (tM rfl rfl (tV (Val.bin rfl rfl rfl) rfl (tE ?_)))))
   refine At.cond rfl (fun h3 => ?_) (fun h3 => ?_)
   ·refine At.region (tM rfl rfl (tV (Val.bin rfl rfl rfl) rfl ?_))
    rw [xorp]
    refine tA rfl rfl (At.nil (At.blkN (At.thenN (At.region (tM rfl rfl (tV (Val.bin rfl rfl rfl) rfl (tA rfl rfl (tE ?_))))))))
    exact At.again (j + 1) (by omega) (by omega) (Sub.cons rfl (Sub.cons rfl (Sub.cons (congrArg (fun z => some (Value.int IntKind.u32 z)) (by rw [show bitN (j + 1) (crc (~~~s) (l.take k) ^^^ BitVec.ofNat 32 c'.toNat) = bit (bitN j (crc (~~~s) (l.take k) ^^^ BitVec.ofNat 32 c'.toNat)) from rfl, bit_T ‹_›])) (Sub.cons rfl (Sub.cons (congrArg (fun z => some (Value.int IntKind.i64 z)) (wrap_i64 (by omega) (by omega))) Sub.nil))))) (List.Perm.refl _)
   ·refine At.skipC (At.blkN (At.thenN (At.region (tM rfl rfl (tV (Val.bin rfl rfl rfl) rfl (tA rfl rfl (tE ?_)))))))
    exact At.again (j + 1) (by omega) (by omega) (Sub.cons rfl (Sub.cons rfl (Sub.cons (congrArg (fun z => some (Value.int IntKind.u32 z)) (by rw [show bitN (j + 1) (crc (~~~s) (l.take k) ^^^ BitVec.ofNat 32 c'.toNat) = bit (bitN j (crc (~~~s) (l.take k) ^^^ BitVec.ofNat 32 c'.toNat)) from rfl, bit_F ‹_›])) (Sub.cons rfl (Sub.cons (congrArg (fun z => some (Value.int IntKind.i64 z)) (wrap_i64 (by omega) (by omega))) Sub.nil))))) (List.Perm.refl _)
  ·have hj : j = 8 := by have := h2; simp at this; omega
   refine At.exitC (At.thenX (At.thenX (At.blkX (At.blkN (At.thenN (At.region (tM rfl rfl (tV (Val.bin rfl rfl rfl) rfl (tA rfl rfl (tE ?_))))))))))
   exact At.again (k + 1) (by omega) (by omega) (Sub.cons rfl (Sub.cons rfl (Sub.cons (congrArg (fun z => some (Value.int IntKind.u32 z)) (by rw [hj, crcByte_bits, crc_take_succ _ _ _ _ hc'])) (Sub.cons (congrArg (fun z => some (Value.int IntKind.i64 z)) (wrap_i64 (by omega) (by omega))) Sub.nil)))) (List.Perm.refl _)
 ·have hk : k = l.length := by have := h1; simp at this; omega
  refine At.exitC (At.thenX (At.thenX (At.blkX (At.thenN (tR (tM rfl rfl (tV (Val.com rfl) rfl (tA rfl rfl (tE (At.retC (At.ret1 (.inl rfl) rfl rfl rfl (fun w hw => ?_))))))))))))
  exact ⟨by rw [com32, hk, List.take_length]; rfl, hw.mod⟩
theorem rsum_p (A : Option Addr) (l : List UInt8) (c : Nat) (w : World) (hb : Bytes w A l) (hlen : l.length ≤ 140737488355328) :
    PureC Tryz.prog 64 [.slice A l.length c] (b32 (sumOn 0 l)) w := by
 refine enter0 Tryz.func64 rfl Tryz.ntmps64 rfl ?_
 simp only [envOf]
 refine tR (tA rfl rfl (tE (tR (tM rfl rfl (At.callP (fun w hw => rsumOn_p 0 _ _ _ w (hb.mod hw.mod) hlen) Tryz.call102 rfl rfl (tA rfl rfl (tE (At.retC (At.ret1 (.inl rfl) rfl rfl rfl (fun w hw => ?_))))))))))
 exact ⟨rfl, hw.mod⟩
theorem rsum_n (A : Option Addr) (l : List UInt8) (n c : Nat) (w : World) (hn : l.length = n) (hb : Bytes w A l) (hlen : n ≤ 140737488355328) : PureC Tryz.prog 64 [.slice A n c] (b32 (sumOn 0 l)) w := by
  subst hn; exact rsum_p A l c w hb hlen
theorem lay_rem (n : Nat) : IntKind.u8.wrap ((n : Int).tmod 256) = ((UInt8.ofNat n).toNat : Int) := by
  rw [show (n : Int).tmod 256 = ((n % 256 : Nat) : Int) from by rw [Int.tmod_eq_emod_of_nonneg (by omega)]; omega, wrap_u8_nat, ofNat_mod]
theorem lay_quo (n : Nat) (h : n < 18446744073709551616) : IntKind.u64.wrap ((n : Int).tdiv 256) = ((n / 256 : Nat) : Int) := by
  rw [show (n : Int).tdiv 256 = ((n / 256 : Nat) : Int) from by rw [Int.tdiv_eq_ediv_of_nonneg (by omega)]; omega, wrap_u64 (by omega) (by omega)]
theorem rlay_p (v : Value) (l : List UInt8) (x cnt : Nat) (w : World) (ho : w.ownsRow 0 5 1 v l.length (l.map bv)) (hx : x < 18446744073709551616) (hc : cnt ≤ 8) (hlen : l.length + cnt ≤ 140737488355328) :
    RowUpd Tryz.prog 63 [v, .int .u64 (x : Int), .int .i64 (cnt : Int)] v 5 1 l.length (l.map bv) (l ++ le cnt x).length ((l ++ le cnt x).map bv) w := by
 refine enter (feet [brow 5 v l]) [brow 5 v l] Tryz.func63 rfl Tryz.ntmps63 rfl (Rep.one ho) ?_
 simp only [envOf]
 refine tR (tA rfl rfl (tE (At.seq (tR (tA rfl rfl (tE (At.block ?_)))))))
 skip
 refine At.loop (σ := Nat × Value) (fun s => s.1 ≤ cnt) (fun s => [(0, s.2), (1, .int .u64 ((x / 256 ^ s.1 : Nat) : Int)), (2, .int .i64 (cnt : Int)), (7, .int .i64 (s.1 : Int))]) (fun s => [brow 5 s.2 (l ++ (le cnt x).take s.1)]) (fun s => cnt - s.1) (0, v) (Nat.zero_le _) (Sub.cons rfl (Sub.cons (congrArg (fun z => some (Value.int IntKind.u64 z)) (by simp)) (Sub.cons rfl (Sub.cons rfl Sub.nil)))) (by simp [List.take_zero]) ?_
 intro s hs
 obtain ⟨k, vk⟩ := s
 dsimp only at hs ⊢
 refine At.seq (tR (tM rfl rfl (tM rfl rfl (tV (Val.bin rfl rfl rfl) rfl (tE ?_)))))
 refine At.cond rfl (fun h1 => ?_) (fun h1 => ?_)
 ·have hk : k < cnt := by have := h1; simp at this; omega
  refine At.skipC (At.thenN (At.seq (At.block (tR (tM rfl rfl (tM rfl rfl (tV (Val.rem rfl rfl (by decide)) rfl (tV (Val.conv Tryz.underlying43 Tryz.underlying5 rfl) rfl ?_))))))))
  rw [lay_rem]
  refine At.buildSl (fun a ha => by simp only [List.map_toArray, List.map_cons, List.map_nil, ha.eval (x := (.tmp 16)) rfl]; try rfl) (bs_29_1 _ ) rfl (fun b2 => (At.append (i := 1) (sz := 1) (by_ := 1) Tryz.underlying29 info_5 rfl rfl rfl rfl rfl rfl rfl rfl rfl (fun w hw j u hj => by rw [Nat.zero_add]; exact ((hw.blk (i := 0) rfl).cell j).trans hj) (by simp [Value.oneCell']) (by rw [List.length_append, List.length_take, le_length]; omega) (by rw [List.length_append, List.length_take, le_length]; omega) rfl (fun v3 => ?_)))
  simp only [sc0, scS]
  refine At.drop 0 ?_
  simp only [ec0, ecS]
  refine tA rfl rfl (At.nil ?_)
  rw [brow_snoc, List.append_assoc, ← le_take_succ _ _ _ hk]
  refine At.thenN (At.region (tM rfl rfl (tV (Val.quo rfl rfl (by decide)) rfl ?_)))
  rw [lay_quo _ (Nat.lt_of_le_of_lt (Nat.div_le_self _ _) hx), Nat.div_div_eq_div_mul, ← Nat.pow_succ]
  refine tA rfl rfl (At.nil (At.blkN (At.thenN (At.region (tM rfl rfl (tV (Val.bin rfl rfl rfl) rfl (tA rfl rfl (tE ?_))))))))
  exact At.again (k + 1, v3) (show k + 1 ≤ cnt by omega) (by dsimp only; omega) (Sub.cons rfl (Sub.cons rfl (Sub.cons rfl (Sub.cons (congrArg (fun z => some (Value.int IntKind.i64 z)) (wrap_i64 (by omega) (by omega))) Sub.nil)))) (List.Perm.refl _)
 ·have hk : k = cnt := by have := h1; simp at this; omega
  refine At.exitC (At.thenX (At.thenX (At.blkX (At.thenN (tR (tM rfl rfl (tA rfl rfl (tE (At.retC (At.ret1 (.inl rfl) rfl rfl rfl (fun w hw => ?_)))))))))))
  exact ⟨vk, rfl, by have := hw; rw [hk, le_take_all] at this; exact this⟩
end Go.Proofs.YtfchinibjhcejaaGreatDoor
namespace Go.Proofs.YtfchinibjhcejaaGreatDoor
open Go Go.Wk
theorem str_get {s : ByteArray} {k : Nat} {c : UInt8} (h : s.data.toList[k]? = some c) : s[((k : Int)).toNat]? = some c := by
  rw [Int.toNat_natCast]
  have hk : k < s.data.size := by
    rcases Nat.lt_or_ge k s.data.size with h1 | h1
    · exact h1
    · rw [List.getElem?_eq_none (by simpa using h1)] at h; cases h
  rw [getElem?_pos s k hk]
  simp [List.getElem?_eq_getElem (show k < s.data.toList.length by simpa using hk)] at h
  rw [← h]; rfl
theorem List.take_succ_of_get {α : Type} {l : List α} {k : Nat} {c : α} (h : l[k]? = some c) : l.take (k + 1) = l.take k ++ [c] := by rw [List.take_add_one, h]; rfl
theorem letters_p (v : Value) (l : List UInt8) (s : ByteArray) (w : World) (ho : w.ownsRow 0 5 1 v l.length (l.map bv)) (hlen : l.length + s.data.toList.length ≤ 140737488355328) :
    RowUpd Tryz.prog 67 [v, .string s] v 5 1 l.length (l.map bv) (l ++ s.data.toList).length ((l ++ s.data.toList).map bv) w := by
 refine enter (feet [brow 5 v l]) [brow 5 v l] Tryz.func67 rfl Tryz.ntmps67 rfl (Rep.one ho) ?_
 have hs : s.size = s.data.toList.length := Array.length_toList.symm
 simp only [envOf]
 refine tR (tA rfl rfl (tE (At.seq (tR (tA rfl rfl (tE (At.block ?_)))))))
 skip
 refine At.loop (σ := Nat × Value) (fun s' => s'.1 ≤ s.data.toList.length) (fun s' => [(0, s'.2), (1, .string s), (5, .int .i64 (s'.1 : Int))]) (fun s' => [brow 5 s'.2 (l ++ s.data.toList.take s'.1)]) (fun s' => s.data.toList.length - s'.1) (0, v) (Nat.zero_le _) (Sub.cons rfl (Sub.cons rfl (Sub.cons rfl Sub.nil))) (by simp) ?_
 intro s' hs
 obtain ⟨k, vk⟩ := s'
 dsimp only at hs ⊢
 refine At.seq (tR (tM rfl rfl (tM rfl rfl (tV (Val.lenStr Tryz.underlying9 rfl) rfl (tV (Val.bin rfl rfl rfl) rfl (tE ?_))))))
 refine At.cond rfl (fun h1 => ?_) (fun h1 => ?_)
 ·have hk : k < s.data.toList.length := by have := h1; simp at this; omega
  obtain ⟨c, hc⟩ : ∃ c, s.data.toList[k]? = some c := ⟨_, List.getElem?_eq_getElem hk⟩
  refine At.skipC (At.thenN (At.seq (At.block (At.region (tM rfl rfl (tM rfl rfl (tM rfl rfl (tV (Val.indexStr Tryz.underlying9 rfl rfl (c := c) (by omega) (str_get hc)) rfl (At.buildSl (fun a ha => by simp only [List.map_toArray, List.map_cons, List.map_nil, ha.eval (x := (.tmp 15)) rfl]; try rfl) (bs_29_1 _ ) rfl (fun b2 => (At.append (i := 1) (sz := 1) (by_ := 1) Tryz.underlying29 info_5 rfl rfl rfl rfl rfl rfl rfl rfl rfl (fun w hw j u hj => by rw [Nat.zero_add]; exact ((hw.blk (i := 0) rfl).cell j).trans hj) (by simp [Value.oneCell']) (by rw [List.length_append, List.length_take]; omega) (by rw [List.length_append, List.length_take]; omega) rfl (fun v3 => ?_))))))))))))
  simp only [sc0, scS]
  refine At.drop 0 ?_
  simp only [ec0, ecS]
  refine tA rfl rfl (At.nil ?_)
  rw [brow_snoc, List.append_assoc, ← List.take_succ_of_get hc]
  refine At.blkN (At.thenN (At.region (tM rfl rfl (tV (Val.bin rfl rfl rfl) rfl (tA rfl rfl (tE ?_))))))
  exact At.again (k + 1, v3) (show k + 1 ≤ _ by omega) (by dsimp only; omega) (Sub.cons rfl (Sub.cons rfl (Sub.cons (congrArg (fun z => some (Value.int IntKind.i64 z)) (wrap_i64 (by omega) (by omega))) Sub.nil))) (List.Perm.refl _)
 ·have hk : k = s.data.toList.length := by have := h1; simp at this; omega
  refine At.exitC (At.thenX (At.thenX (At.blkX (At.thenN (tR (tM rfl rfl (tA rfl rfl (tE (At.retC (At.ret1 (.inl rfl) rfl rfl rfl (fun w hw => ?_)))))))))))
  exact ⟨vk, rfl, by have := hw; rw [hk, List.take_length] at this; exact this⟩
end Go.Proofs.YtfchinibjhcejaaGreatDoor
namespace Go.Proofs.YtfchinibjhcejaaGreatDoor
open Go Go.Wk
def bytesW (ws : List (BitVec 64)) : List UInt8 := ws.flatMap fun x => le 8 x.toNat
theorem bytesW_append (a b : List (BitVec 64)) : bytesW (a ++ b) = bytesW a ++ bytesW b := by simp [bytesW]
theorem bytesW_length (a : List (BitVec 64)) : (bytesW a).length = 8 * a.length := by
  induction a with
  | nil => rfl
  | cons c a ih => simp only [bytesW, List.flatMap_cons, List.length_append, List.length_cons, le_length] at *; rw [ih]; omega
theorem bytesW_snoc (a : List (BitVec 64)) (x : BitVec 64) : bytesW (a ++ [x]) = bytesW a ++ le 8 x.toNat := by rw [bytesW_append]; simp [bytesW]
def SlotWd (a : Int) : Prop := 2048 ≤ a ∧ a ≤ 18431 ∧ (a - 2048) % 8 = 0 ∧ (a - 2048) % 64 ≤ 16
instance (a : Int) : Decidable (SlotWd a) := by unfold SlotWd; infer_instance
def hasAt (L : List (Int × BitVec 64)) (a : Int) : Bool := L.any fun d => d.1 == a
theorem hasAt_T {L : List (Int × BitVec 64)} {a : Int} : hasAt L a = true ↔ ∃ (i : Nat) (d : Int × BitVec 64), L[i]? = some d ∧ d.1 = a := by
  unfold hasAt
  rw [List.any_eq_true]
  constructor
  · rintro ⟨d, hd, h⟩
    obtain ⟨i, hi, rfl⟩ := List.getElem_of_mem hd
    exact ⟨i, _, List.getElem?_eq_getElem hi, by simpa using h⟩
  · rintro ⟨i, d, hd, h⟩
    exact ⟨d, List.mem_of_getElem? hd, by simpa using h⟩
def OkAt (L : List (Int × BitVec 64)) (j : Nat) : Prop := ∀ c, L[j]? = some c → SlotWd c.1 ∧ hasAt (L.take j) c.1 = false
def GoodUn (L : List (Int × BitVec 64)) : Prop := 1 ≤ L.length ∧ L.length ≤ 8 ∧ ∀ j, j < L.length → OkAt L j
noncomputable instance (L : List (Int × BitVec 64)) : Decidable (GoodUn L) := Classical.propDecidable _
theorem good_no1 {L : List (Int × BitVec 64)} {j : Nat} {c : Int × BitVec 64} (h : L[j]? = some c) (hn : ¬ SlotWd c.1) : ¬ GoodUn L := fun g => hn (g.2.2 j (List.getElem?_eq_some_iff.1 h).1 c h).1
theorem good_no2 {L : List (Int × BitVec 64)} {j : Nat} {c : Int × BitVec 64} (h : L[j]? = some c) (hn : hasAt (L.take j) c.1 = true) : ¬ GoodUn L := fun g => by
  have := (g.2.2 j (List.getElem?_eq_some_iff.1 h).1 c h).2
  rw [hn] at this; cases this
theorem okAt_of {L : List (Int × BitVec 64)} {j : Nat} {c : Int × BitVec 64} (h : L[j]? = some c) (h1 : SlotWd c.1) (h2 : hasAt (L.take j) c.1 = false) : OkAt L j := fun d hd => by
  rw [h] at hd; obtain rfl := Option.some.inj hd; exact ⟨h1, h2⟩
theorem wrap_over {a : Int} (h : ¬ -9223372036854773760 ≤ a) (h0 : -9223372036854775808 ≤ a) : IntKind.i64.wrap (a - 2048) = a - 2048 + 18446744073709551616 := by
  have e : (a - 2048) % (2 ^ 64 : Int) = a - 2048 + 18446744073709551616 := by
    rw [show (2 : Int) ^ 64 = 18446744073709551616 from rfl]; omega
  unfold IntKind.wrap
  show (let m := (a - 2048) % (2 ^ 64 : Int); if (IntKind.i64.signed && decide (m ≥ (2 ^ (64 - 1) : Int))) = true then m - (2 ^ 64 : Int) else m) = _
  rw [e]
  rw [if_neg]
  simp [IntKind.signed]
  omega
theorem bytes_n (v : Value) (ws : List (BitVec 64)) (w : World) (hv : RdW w v ws) (hlen : ws.length ≤ 1000000) :
    NewRow Tryz.prog 41 [v] 5 1 (bytesW ws).length ((bytesW ws).map bv) w := by
 refine enter (feet []) [] Tryz.func41 rfl Tryz.ntmps41 rfl ⟨by simp, by simp, by simp, Mod.refl _ _⟩ ?_
 simp only [envOf]
 refine tR (tA rfl rfl (tE (tR (tM rfl rfl (tV (Val.lenRd hv Tryz.underlying98 rfl) rfl (tV (Val.mulI rfl rfl (by omega) (by omega)) rfl ?_))))))
 rw [show (8 : Int) * (ws.length : Int) = ((8 * ws.length : Nat) : Int) from by omega]
 refine At.makeRow0B (c := 8 * ws.length) Tryz.underlying29 info_5 rfl rfl rfl rfl rfl (by omega) rfl (fun v1 => (tA rfl rfl (tE (At.seq (tR (tM rfl rfl (tV (Val.lenRd hv Tryz.underlying98 rfl) rfl (tM rfl rfl (tE (At.block ?_))))))))))
 skip
 refine At.loop (σ := Nat × Value) (fun s => s.1 ≤ ws.length) (fun s => [(3, s.2), (11, v), (12, .int .i64 (ws.length : Int)), (13, .int .i64 (s.1 : Int))]) (fun s => [brow 5 s.2 (bytesW (ws.take s.1))]) (fun s => ws.length - s.1) (0, v1) (Nat.zero_le _) (Sub.cons rfl (Sub.cons rfl (Sub.cons rfl (Sub.cons rfl Sub.nil)))) (List.Perm.refl _) ?_
 intro s hs
 obtain ⟨k, vk⟩ := s
 dsimp only at hs ⊢
 refine tR (tV (Val.bin rfl rfl rfl) rfl (tE (At.seq ?_)))
 refine At.cond rfl (fun h2 => ?_) (fun h2 => ?_)
 ·try simp only [vN_T, vN_F, nmE_T, nmE_F, wI_T, wI_F, data_T, data_F, ino_T, ino_F, notT, notF, bneT, bneF, beqT, beqF, decT, decF] at h2
  have hk : k < ws.length := by omega
  have hbl := bytesW_length (ws.take k)
  have htl : (ws.take k).length = k := by rw [List.length_take]; omega
  refine At.skipC (At.thenN (At.seq (At.block (tR (At.idxF hv Tryz.underlying98 Tryz.sizeOf43 rfl rfl (by omega) (by omega) rfl rfl (fun b3 o4 q5 hq6 hc7 => (tV (Val.loadOld Tryz.isAgg43 rfl hc7 (fun h => by simp [feet] at h)) rfl (tA rfl rfl (tE (tR (tM rfl rfl (At.callP (fun w hw => lay_p q5 w) Tryz.call77 rfl rfl (At.alloc zero_148 zc_148 rfl (fun b9 => (At.storeAll (i := 0) Tryz.sizeOf148 rfl rfl (by simp [le_length]) (by simp [Value.oneCell']) rfl (by simp) ?_)))))))))))))))
  simp only [sc0, scS]
  refine tE (At.region (tM rfl rfl (tV (Val.cutArr 0 8 0 8 8 Tryz.underlying148 Tryz.sizeOf5 rfl rfl rfl (by decide) (by decide) rfl rfl rfl) rfl (At.appendBlkB (i := 1) (j := 0) (m := le 8 q5.toNat) (by_ := 1) Tryz.underlying29 info_5 rfl rfl rfl rfl rfl rfl rfl rfl (le_length ..) (by omega) (by omega) rfl (fun v10 => ?_)))))
  simp only [sc0, scS]
  refine tA rfl rfl (At.nil (At.blkN (At.thenN (At.region ?_))))
  first | refine tV (Val.addI rfl rfl (by omega) (by omega)) rfl ?_ | refine tV (Val.bin rfl rfl rfl) rfl ?_
  refine tM rfl rfl (tE (At.drop 0 ?_))
  simp only [ec0, ecS]
  exact At.again (k + 1, v10) (show k + 1 ≤ _ by omega) (by dsimp only; omega) (Sub.cons rfl (Sub.cons rfl (Sub.cons rfl (Sub.cons (congrArg (fun z => some (Value.int IntKind.i64 z)) (by omega)) Sub.nil)))) (by rw [List.take_succ_of_get (by have := hq6; rwa [Int.toNat_natCast] at this), bytesW_snoc])
 ·try simp only [vN_T, vN_F, nmE_T, nmE_F, wI_T, wI_F, data_T, data_F, ino_T, ino_F, notT, notF, bneT, bneF, beqT, beqF, decT, decF] at h2
  obtain rfl : k = ws.length := by omega
  rw [List.take_length]
  refine At.exitC (At.thenX (At.thenX (At.blkX (At.thenN (tR (tM rfl rfl (tA rfl rfl (tE (At.retC (At.ret1 (.inl rfl) rfl rfl rfl (fun w hw => ?_)))))))))))
  exact ⟨vk, rfl, hw.drop (List.singleton_sublist.2 (List.mem_of_getElem? (i := 0) rfl))⟩
theorem undoEq_p (c : Int × BitVec 64) (bc : Nat) (a : Int) (w : World) (hc : w.cell? ⟨bc, 0, none⟩ = some (.int .i64 a)) :
    PureC Tryz.prog 112 [.agg #[.int .i64 c.1, b64 c.2], .pointer (some ⟨bc, 0, none⟩)] (.bool (c.1 == a)) w := by
 refine enter0 Tryz.func112 rfl Tryz.ntmps112 rfl ?_
 simp only [envOf]
 refine tR (At.box rfl rfl rfl (fun b1 => (tA rfl rfl (tE (tR (tV (Val.field 0 rfl fo_45_0 rfl) rfl (tV (Val.load (i := 0) Tryz.isAgg3 rfl rfl rfl) rfl (tV (Val.field 0 rfl fo_45_0 rfl) rfl (tV (Val.loadOld Tryz.isAgg3 rfl hc (fun h => h)) rfl (tV (Val.bin rfl rfl rfl) rfl (tA rfl rfl (tE (At.retC (At.ret1 (.inl rfl) rfl rfl rfl (fun w hw => ?_)))))))))))))))
 exact ⟨rfl, hw.mod⟩
theorem undoIdx_x (v : Value) (L : List (Int × BitVec 64)) (bc : Nat) (a : Int) (w : World) (hv : RdP w v L) (hc : w.cell? ⟨bc, 0, none⟩ = some (.int .i64 a)) (hlen : L.length ≤ 140737488355328) :
    SomeC Tryz.prog 138 [v, .func (.func 112) #[] #[.pointer (some ⟨bc, 0, none⟩)]] (fun r => ∃ n : Int, r = .int .i64 n ∧ (0 ≤ n ↔ hasAt L a = true)) w := by
 refine enter0 Tryz.func138 rfl Tryz.ntmps138 rfl ?_
 simp only [envOf]
 refine tR (tA rfl rfl (tE (At.seq (tR (tM rfl rfl (tV (Val.lenRd hv Tryz.underlying25 rfl) rfl (tM rfl rfl (tE (At.block ?_)))))))))
 skip
 refine At.loop (σ := Nat) (fun k => k ≤ L.length ∧ hasAt (L.take k) a = false) (fun k => [(0, v), (1, .func (.func 112) #[] #[.pointer (some ⟨bc, 0, none⟩)]), (7, .int .i64 (L.length : Int)), (8, .int .i64 (k : Int))]) (fun k => []) (fun k => L.length - k) 0 ⟨Nat.zero_le _, rfl⟩ (Sub.cons rfl (Sub.cons rfl (Sub.cons rfl (Sub.cons rfl Sub.nil)))) (List.Perm.refl _) ?_
 intro k hs
 refine tR (tV (Val.bin rfl rfl rfl) rfl (tE (At.seq ?_)))
 refine At.cond rfl (fun h1 => ?_) (fun h1 => ?_)
 ·try simp only [vN_T, vN_F, nmE_T, nmE_F, wI_T, wI_F, data_T, data_F, ino_T, ino_F, notT, notF, bneT, bneF, beqT, beqF, decT, decF] at h1
  have hk : k < L.length := by omega
  refine At.skipC (At.thenN (At.seq (At.block (tR (tM rfl rfl (tA rfl rfl (tE (tR (tM rfl rfl (tM rfl rfl (tM rfl rfl (At.idxP hv Tryz.underlying25 Tryz.sizeOf45 rfl rfl (by omega) (by omega) rfl rfl (fun b2 o3 q4 hq5 hc6 hd7 => (tV (Val.loadPair Tryz.isAgg45 Tryz.sizeOf45 rfl hc6 hd7 (fun h => h)) rfl (At.callV rfl Tryz.call112 rfl rfl (fun w hw => undoEq_p q4 bc a w (hw.mod.cell hc)) (tE ?_))))))))))))))))
  refine At.cond rfl (fun h8 => ?_) (fun h8 => ?_)
  ·try simp only [vN_T, vN_F, nmE_T, nmE_F, wI_T, wI_F, data_T, data_F, ino_T, ino_F, notT, notF, bneT, bneF, beqT, beqF, decT, decF] at h8
   refine tR (tM rfl rfl (tA rfl rfl (tE (At.retC (At.blkR (At.thenR (At.thenR (At.blkR (At.thenR (At.ret1 (.inl rfl) rfl rfl rfl (fun w hw => ?_)))))))))))
   exact ⟨_, ⟨(k : Int), rfl, ⟨fun _ => hasAt_T.2 ⟨k, _, (by have := hq5; rwa [Int.toNat_natCast] at this), by assumption⟩, fun _ => by omega⟩⟩, rfl, hw.mod⟩
  ·try simp only [vN_T, vN_F, nmE_T, nmE_F, wI_T, wI_F, data_T, data_F, ino_T, ino_F, notT, notF, bneT, bneF, beqT, beqF, decT, decF] at h8
   refine At.skipC (At.blkN (At.thenN (At.region ?_)))
   first | refine tV (Val.addI rfl rfl (by omega) (by omega)) rfl ?_ | refine tV (Val.bin rfl rfl rfl) rfl ?_
   refine tM rfl rfl (tE ?_)
   exact At.again (k + 1) ⟨by omega, by rw [List.take_succ_of_get (by have := hq5; rwa [Int.toNat_natCast] at this)]; unfold hasAt; rw [List.any_append]; unfold hasAt at hs; rw [hs.2]; simp; assumption⟩ (by omega) (Sub.cons rfl (Sub.cons rfl (Sub.cons rfl (Sub.cons (congrArg (fun z => some (Value.int IntKind.i64 z)) (by omega)) Sub.nil)))) (List.Perm.refl _)
 ·try simp only [vN_T, vN_F, nmE_T, nmE_F, wI_T, wI_F, data_T, data_F, ino_T, ino_F, notT, notF, bneT, bneF, beqT, beqF, decT, decF] at h1
  obtain rfl : k = L.length := by omega
  refine At.exitC (At.thenX (At.thenX (At.blkX (At.thenN (tR (tA rfl rfl (tE (At.retC (At.ret1 (.inl rfl) rfl rfl rfl (fun w hw => ?_))))))))))
  exact ⟨_, ⟨-1, rfl, by have h2 := hs.2; rw [List.take_length] at h2; rw [h2]; decide⟩, rfl, hw.mod⟩
theorem undoHas_p (v : Value) (L : List (Int × BitVec 64)) (bc : Nat) (a : Int) (w : World) (hv : RdP w v L) (hc : w.cell? ⟨bc, 0, none⟩ = some (.int .i64 a)) (hlen : L.length ≤ 140737488355328) :
    PureC Tryz.prog 111 [v, .func (.func 112) #[] #[.pointer (some ⟨bc, 0, none⟩)]] (.bool (hasAt L a)) w := by
 refine enter0 Tryz.func111 rfl Tryz.ntmps111 rfl ?_
 simp only [envOf]
 refine tR (tA rfl rfl (tE (tR (tM rfl rfl (tM rfl rfl (At.callX (fun w hw => undoIdx_x v L bc a w (hv.mod hw.mod) (hw.mod.cell hc) hlen) Tryz.call138 rfl rfl (fun v1 hv2 => ?_)))))))
 obtain ⟨n, rfl, hn⟩ := hv2
 refine tV (Val.bin rfl rfl rfl) rfl (tA rfl rfl (tE (At.retC (At.ret1 (.inl rfl) rfl rfl rfl (fun w hw => ?_)))))
 exact ⟨retB (by apply Bool.eq_iff_iff.2; rw [decide_eq_true_eq]; exact hn), hw.mod⟩
theorem goodUn_p (v : Value) (L : List (Int × BitVec 64)) (w : World) (hv : RdP w v L) (hlen : L.length ≤ 140737488355328) (hbd : ∀ c ∈ L, -9223372036854775808 ≤ c.1 ∧ c.1 ≤ 9223372036854775807) :
    PureC Tryz.prog 76 [v] (.bool (decide (GoodUn L))) w := by
 refine enter0 Tryz.func76 rfl Tryz.ntmps76 rfl ?_
 simp only [envOf]
 refine tR (tA rfl rfl (tE (At.seq (tR (At.weaken [(0, _), (2, _)] (Sub.cons rfl (Sub.cons rfl Sub.nil)) ?_)))))
 refine At.boolMeet 8 13 (decide (L.length = 0 ∨ 8 < L.length)) ?_ ?_
 ·simp only [List.take_succ_cons, List.take_zero]
  refine tM rfl rfl (tV (Val.lenRd hv Tryz.underlying25 rfl) rfl (tV (Val.bin rfl rfl rfl) rfl (tM rfl rfl ?_)))
  refine At.split (t := 9) rfl (fun h1 => ?_) (fun h1 => ?_)
  ·try simp only [vN_T, vN_F, nmE_T, nmE_F, wI_T, wI_F, data_T, data_F, ino_T, ino_F, notT, notF, bneT, bneF, beqT, beqF, decT, decF] at h1
   refine At.no rfl rfl rfl rfl (At.no rfl rfl rfl rfl (At.no rfl rfl rfl rfl (tV (Val.pickT rfl rfl) rfl (At.nil ?_))))
   exact At.boolEnd rfl (by first | rfl | exact (decide_eq_true (by omega)).symm | exact (decide_eq_false (by omega)).symm | (apply Bool.eq_iff_iff.2; simp only [decide_eq_true_eq, beq_iff_eq, bne_iff_ne, ne_eq, wI_T, data_T, ino_T, vN_T, nmE_T, Bool.not_eq_true', wI_F, data_F, ino_F, vN_F, nmE_F, decide_eq_false_iff_not]; omega)) (by repeat (first | exact Sub.nil | refine Sub.cons rfl ?_))
  ·try simp only [vN_T, vN_F, nmE_T, nmE_F, wI_T, wI_F, data_T, data_F, ino_T, ino_F, notT, notF, bneT, bneF, beqT, beqF, decT, decF] at h1
   refine At.yes rfl rfl (tM rfl rfl (At.yes rfl rfl (tV (Val.lenRd hv Tryz.underlying25 rfl) rfl (At.yes rfl rfl (tV (Val.bin rfl rfl rfl) rfl (tV (Val.pickF rfl rfl) rfl (At.nil ?_)))))))
   exact At.boolEnd rfl (by first | rfl | exact (decide_eq_true (by omega)).symm | exact (decide_eq_false (by omega)).symm | (apply Bool.eq_iff_iff.2; simp only [decide_eq_true_eq, beq_iff_eq, bne_iff_ne, ne_eq, wI_T, data_T, ino_T, vN_T, nmE_T, Bool.not_eq_true', wI_F, data_F, ino_F, vN_F, nmE_F, decide_eq_false_iff_not]; omega)) (by repeat (first | exact Sub.nil | refine Sub.cons rfl ?_))
 ·simp only [List.drop_succ_cons, List.drop_zero]
  refine tE ?_
  refine At.cond rfl (fun h2 => ?_) (fun h2 => ?_)
  ·try simp only [vN_T, vN_F, nmE_T, nmE_F, wI_T, wI_F, data_T, data_F, ino_T, ino_F, notT, notF, bneT, bneF, beqT, beqF, decT, decF] at h2
   refine tR (tA rfl rfl (tE (At.retC (At.thenR (At.ret1 (.inl rfl) rfl rfl rfl (fun w hw => ?_))))))
   exact ⟨retB (by first | exact (decide_eq_false (fun g => by have h1 := g.1; have h2 := g.2.1; omega)).symm | exact (decide_eq_false (good_no1 hqk hno)).symm | exact (decide_eq_false (good_no2 hqk (by assumption))).symm | exact (decide_eq_true ⟨by omega, by omega, hs.2⟩).symm), hw.mod⟩
  ·try simp only [vN_T, vN_F, nmE_T, nmE_F, wI_T, wI_F, data_T, data_F, ino_T, ino_F, notT, notF, bneT, bneF, beqT, beqF, decT, decF] at h2
   refine At.skipC (At.thenN (At.seq (tR (tM rfl rfl (tV (Val.lenRd hv Tryz.underlying25 rfl) rfl (tM rfl rfl (tE (At.block ?_))))))))
   skip
   refine At.loop (σ := Nat) (fun k => k ≤ L.length ∧ ∀ j, j < k → OkAt L j) (fun k => [(0, v), (14, v), (15, .int .i64 (L.length : Int)), (16, .int .i64 (k : Int))]) (fun k => []) (fun k => L.length - k) 0 ⟨Nat.zero_le _, fun j h => by omega⟩ (Sub.cons rfl (Sub.cons rfl (Sub.cons rfl (Sub.cons rfl Sub.nil)))) (List.Perm.refl _) ?_
   intro k hs
   refine tR (tV (Val.bin rfl rfl rfl) rfl (tE (At.seq ?_)))
   refine At.cond rfl (fun h3 => ?_) (fun h3 => ?_)
   ·try simp only [vN_T, vN_F, nmE_T, nmE_F, wI_T, wI_F, data_T, data_F, ino_T, ino_F, notT, notF, bneT, bneF, beqT, beqF, decT, decF] at h3
    have hk : k < L.length := by omega
    refine At.skipC (At.thenN (At.seq (At.block (tR (tM rfl rfl (At.idxP hv Tryz.underlying25 Tryz.sizeOf45 rfl rfl (by omega) (by omega) rfl rfl (fun b4 o5 q6 hq7 hc8 hd9 => (tV (Val.loadPair Tryz.isAgg45 Tryz.sizeOf45 rfl hc8 hd9 (fun h => h)) rfl (At.alloc Tryz.zeroValue45 rfl rfl (fun b10 => (tA rfl rfl (At.storeAll (i := 0) Tryz.sizeOf45 rfl rfl rfl (by simp [Value.oneCell']) rfl rfl ?_))))))))))))
    simp only [sc0, scS]
    refine At.nil ?_
    have hqk := hq7
    rw [Int.toNat_natCast] at hqk
    have hbq := hbd _ (List.mem_of_getElem? hqk)
    refine At.thenN (tR (tV (Val.field 0 rfl fo_45_0 rfl) rfl (tV (Val.load (i := 0) Tryz.isAgg3 rfl rfl rfl) rfl (tV (Val.bin rfl rfl rfl) rfl ?_))))
    by_cases hlo : -9223372036854773760 ≤ q6.1
    ·rw [wrap_i64 (n := q6.1 - 2048) (by omega) (by omega)]
     refine tA rfl rfl (tE (At.seq (tR (At.weaken [(0, _), (14, _), (15, _), (16, _), (17, _), (18, _), (19, _), (20, _), (4, _), (3, _), (21, _), (22, _), (23, _), (5, _)] (Sub.cons rfl (Sub.cons rfl (Sub.cons rfl (Sub.cons rfl (Sub.cons rfl (Sub.cons rfl (Sub.cons rfl (Sub.cons rfl (Sub.cons rfl (Sub.cons rfl (Sub.cons rfl (Sub.cons rfl (Sub.cons rfl (Sub.cons rfl Sub.nil)))))))))))))) ?_))))
     refine At.boolMeet 13 36 (!decide (SlotWd q6.1)) ?_ ?_
     ·simp only [List.take_succ_cons, List.take_zero]
      refine tM rfl rfl (At.callP (fun w hw => within_p _ _ _ w) Tryz.call108 rfl rfl (tV (Val.not rfl) rfl (tM rfl rfl ?_)))
      refine At.split (t := 27) rfl (fun h11 => ?_) (fun h11 => ?_)
      ·try simp only [vN_T, vN_F, nmE_T, nmE_F, wI_T, wI_F, data_T, data_F, ino_T, ino_F, notT, notF, bneT, bneF, beqT, beqF, decT, decF] at h11
       refine At.no rfl rfl rfl rfl (At.no rfl rfl rfl rfl (At.no rfl rfl rfl rfl (tV (Val.pickT rfl rfl) rfl (tM rfl rfl (At.no rfl rfl rfl rfl (At.no rfl rfl rfl rfl (At.no rfl rfl rfl rfl (tV (Val.pickT rfl rfl) rfl (At.nil ?_)))))))))
       exact At.boolEnd rfl (by first | (rw [decide_eq_true (show SlotWd q6.1 by unfold SlotWd; omega)]; rfl) | (rw [decide_eq_false (show ¬ SlotWd q6.1 by unfold SlotWd; omega)]; rfl) | (apply Bool.eq_iff_iff.2; simp only [Bool.not_eq_true', decide_eq_false_iff_not, decide_eq_true_eq]; unfold SlotWd; omega)) (by repeat (first | exact Sub.nil | refine Sub.cons rfl ?_))
      ·try simp only [vN_T, vN_F, nmE_T, nmE_F, wI_T, wI_F, data_T, data_F, ino_T, ino_F, notT, notF, bneT, bneF, beqT, beqF, decT, decF] at h11
       refine At.yes rfl rfl (tM rfl rfl (At.yes rfl rfl ?_))
       first | refine tV (Val.remI rfl rfl (by omega) (by decide)) rfl ?_ | refine tV (Val.rem rfl rfl (by decide)) rfl ?_
       refine At.yes rfl rfl (tV (Val.bin rfl rfl rfl) rfl (tV (Val.pickF rfl rfl) rfl (tM rfl rfl ?_)))
       refine At.split (t := 32) rfl (fun h12 => ?_) (fun h12 => ?_)
       ·try simp only [vN_T, vN_F, nmE_T, nmE_F, wI_T, wI_F, data_T, data_F, ino_T, ino_F, notT, notF, bneT, bneF, beqT, beqF, decT, decF] at h12
        refine At.no rfl rfl rfl rfl (At.no rfl rfl rfl rfl (At.no rfl rfl rfl rfl (tV (Val.pickT rfl rfl) rfl (At.nil ?_))))
        exact At.boolEnd rfl (by first | (rw [decide_eq_true (show SlotWd q6.1 by unfold SlotWd; omega)]; rfl) | (rw [decide_eq_false (show ¬ SlotWd q6.1 by unfold SlotWd; omega)]; rfl) | (apply Bool.eq_iff_iff.2; simp only [Bool.not_eq_true', decide_eq_false_iff_not, decide_eq_true_eq]; unfold SlotWd; omega)) (by repeat (first | exact Sub.nil | refine Sub.cons rfl ?_))
       ·try simp only [vN_T, vN_F, nmE_T, nmE_F, wI_T, wI_F, data_T, data_F, ino_T, ino_F, notT, notF, bneT, bneF, beqT, beqF, decT, decF] at h12
        refine At.yes rfl rfl (tM rfl rfl (At.yes rfl rfl ?_))
        first | refine tV (Val.remI rfl rfl (by omega) (by decide)) rfl ?_ | refine tV (Val.rem rfl rfl (by decide)) rfl ?_
        refine At.yes rfl rfl (tV (Val.bin rfl rfl rfl) rfl (tV (Val.pickF rfl rfl) rfl (At.nil ?_)))
        exact At.boolEnd rfl (by first | (rw [decide_eq_true (show SlotWd q6.1 by unfold SlotWd; omega)]; rfl) | (rw [decide_eq_false (show ¬ SlotWd q6.1 by unfold SlotWd; omega)]; rfl) | (apply Bool.eq_iff_iff.2; simp only [Bool.not_eq_true', decide_eq_false_iff_not, decide_eq_true_eq]; unfold SlotWd; omega)) (by repeat (first | exact Sub.nil | refine Sub.cons rfl ?_))
     ·simp only [List.drop_succ_cons, List.drop_zero]
      refine tE ?_
      refine At.cond rfl (fun h13 => ?_) (fun h13 => ?_)
      ·try simp only [vN_T, vN_F, nmE_T, nmE_F, wI_T, wI_F, data_T, data_F, ino_T, ino_F, notT, notF, bneT, bneF, beqT, beqF, decT, decF] at h13
       have hno := h13
       refine tR (tA rfl rfl (tE (At.retC (At.thenR (At.blkR (At.thenR (At.thenR (At.blkR (At.thenR (At.ret1 (.inl rfl) rfl rfl rfl (fun w hw => ?_)))))))))))
       exact ⟨retB (by first | exact (decide_eq_false (fun g => by have h1 := g.1; have h2 := g.2.1; omega)).symm | exact (decide_eq_false (good_no1 hqk hno)).symm | exact (decide_eq_false (good_no2 hqk (by assumption))).symm | exact (decide_eq_true ⟨by omega, by omega, hs.2⟩).symm), hw.mod⟩
      ·try simp only [vN_T, vN_F, nmE_T, nmE_F, wI_T, wI_F, data_T, data_F, ino_T, ino_F, notT, notF, bneT, bneF, beqT, beqF, decT, decF] at h13
       have hyes := h13
       refine At.skipC (At.thenN (tR (tM rfl rfl (tM rfl rfl (At.cutP (k) hv Tryz.underlying25 Tryz.sizeOf45 rfl ⟨_, _, rfl, by omega, by omega⟩ (by omega) rfl rfl (fun v14 hv15 => (tV (Val.makeFunc rfl) rfl ?_)))))))
       refine At.callP (fun w hw => undoHas_p _ (L.take k) b10 q6.1 w (hv15.mod hw.mod) ((hw.blk (i := 0) rfl).cell 0) (by rw [List.length_take]; omega)) Tryz.call111 rfl rfl (tE ?_)
       refine At.cond rfl (fun h16 => ?_) (fun h16 => ?_)
       ·try simp only [vN_T, vN_F, nmE_T, nmE_F, wI_T, wI_F, data_T, data_F, ino_T, ino_F, notT, notF, bneT, bneF, beqT, beqF, decT, decF] at h16
        refine tR (tA rfl rfl (tE (At.retC (At.blkR (At.thenR (At.thenR (At.blkR (At.thenR (At.ret1 (.inl rfl) rfl rfl rfl (fun w hw => ?_))))))))))
        exact ⟨retB (by first | exact (decide_eq_false (fun g => by have h1 := g.1; have h2 := g.2.1; omega)).symm | exact (decide_eq_false (good_no1 hqk hno)).symm | exact (decide_eq_false (good_no2 hqk (by assumption))).symm | exact (decide_eq_true ⟨by omega, by omega, hs.2⟩).symm), hw.mod⟩
       ·try simp only [vN_T, vN_F, nmE_T, nmE_F, wI_T, wI_F, data_T, data_F, ino_T, ino_F, notT, notF, bneT, bneF, beqT, beqF, decT, decF] at h16
        refine At.skipC (At.blkN (At.thenN (At.region ?_)))
        first | refine tV (Val.addI rfl rfl (by omega) (by omega)) rfl ?_ | refine tV (Val.bin rfl rfl rfl) rfl ?_
        refine tM rfl rfl (tE (At.drop 0 ?_))
        simp only [ec0, ecS]
        exact At.again (k + 1) ⟨by omega, fun j hj => by rcases Nat.lt_or_ge j k with h | h; exact hs.2 j h; obtain rfl : j = k := (by omega); exact okAt_of hqk hyes (by assumption)⟩ (by omega) (Sub.cons rfl (Sub.cons rfl (Sub.cons rfl (Sub.cons (congrArg (fun z => some (Value.int IntKind.i64 z)) (by omega)) Sub.nil)))) (List.Perm.refl _)
    ·have hno : ¬ SlotWd q6.1 := by unfold SlotWd; omega
     obtain ⟨ov, hov⟩ : ∃ ov, ov = IntKind.i64.wrap (q6.1 - 2048) := ⟨_, rfl⟩
     have hov' : ov = q6.1 - 2048 + 18446744073709551616 := by rw [hov]; exact wrap_over hlo hbq.1
     rw [← hov]
     refine tA rfl rfl (tE (At.seq (tR (At.weaken [(0, _), (14, _), (15, _), (16, _), (17, _), (18, _), (19, _), (20, _), (4, _), (3, _), (21, _), (22, _), (23, _), (5, _)] (Sub.cons rfl (Sub.cons rfl (Sub.cons rfl (Sub.cons rfl (Sub.cons rfl (Sub.cons rfl (Sub.cons rfl (Sub.cons rfl (Sub.cons rfl (Sub.cons rfl (Sub.cons rfl (Sub.cons rfl (Sub.cons rfl (Sub.cons rfl Sub.nil)))))))))))))) ?_))))
     refine At.boolMeet 13 36 (!decide (SlotWd q6.1)) ?_ ?_
     ·simp only [List.take_succ_cons, List.take_zero]
      refine tM rfl rfl (At.callP (fun w hw => within_p _ _ _ w) Tryz.call108 rfl rfl (tV (Val.not rfl) rfl (tM rfl rfl ?_)))
      refine At.split (t := 27) rfl (fun h17 => ?_) (fun h17 => ?_)
      ·try simp only [vN_T, vN_F, nmE_T, nmE_F, wI_T, wI_F, data_T, data_F, ino_T, ino_F, notT, notF, bneT, bneF, beqT, beqF, decT, decF] at h17
       refine At.no rfl rfl rfl rfl (At.no rfl rfl rfl rfl (At.no rfl rfl rfl rfl (tV (Val.pickT rfl rfl) rfl (tM rfl rfl (At.no rfl rfl rfl rfl (At.no rfl rfl rfl rfl (At.no rfl rfl rfl rfl (tV (Val.pickT rfl rfl) rfl (At.nil ?_)))))))))
       exact At.boolEnd rfl (by first | (rw [decide_eq_true (show SlotWd q6.1 by unfold SlotWd; omega)]; rfl) | (rw [decide_eq_false (show ¬ SlotWd q6.1 by unfold SlotWd; omega)]; rfl) | (apply Bool.eq_iff_iff.2; simp only [Bool.not_eq_true', decide_eq_false_iff_not, decide_eq_true_eq]; unfold SlotWd; omega)) (by repeat (first | exact Sub.nil | refine Sub.cons rfl ?_))
      ·try simp only [vN_T, vN_F, nmE_T, nmE_F, wI_T, wI_F, data_T, data_F, ino_T, ino_F, notT, notF, bneT, bneF, beqT, beqF, decT, decF] at h17
       refine At.yes rfl rfl (tM rfl rfl (At.yes rfl rfl ?_))
       first | refine tV (Val.remI rfl rfl (by omega) (by decide)) rfl ?_ | refine tV (Val.rem rfl rfl (by decide)) rfl ?_
       refine At.yes rfl rfl (tV (Val.bin rfl rfl rfl) rfl (tV (Val.pickF rfl rfl) rfl (tM rfl rfl ?_)))
       refine At.split (t := 32) rfl (fun h18 => ?_) (fun h18 => ?_)
       ·try simp only [vN_T, vN_F, nmE_T, nmE_F, wI_T, wI_F, data_T, data_F, ino_T, ino_F, notT, notF, bneT, bneF, beqT, beqF, decT, decF] at h18
        refine At.no rfl rfl rfl rfl (At.no rfl rfl rfl rfl (At.no rfl rfl rfl rfl (tV (Val.pickT rfl rfl) rfl (At.nil ?_))))
        exact At.boolEnd rfl (by first | (rw [decide_eq_true (show SlotWd q6.1 by unfold SlotWd; omega)]; rfl) | (rw [decide_eq_false (show ¬ SlotWd q6.1 by unfold SlotWd; omega)]; rfl) | (apply Bool.eq_iff_iff.2; simp only [Bool.not_eq_true', decide_eq_false_iff_not, decide_eq_true_eq]; unfold SlotWd; omega)) (by repeat (first | exact Sub.nil | refine Sub.cons rfl ?_))
       ·try simp only [vN_T, vN_F, nmE_T, nmE_F, wI_T, wI_F, data_T, data_F, ino_T, ino_F, notT, notF, bneT, bneF, beqT, beqF, decT, decF] at h18
        refine At.yes rfl rfl (tM rfl rfl (At.yes rfl rfl ?_))
        first | refine tV (Val.remI rfl rfl (by omega) (by decide)) rfl ?_ | refine tV (Val.rem rfl rfl (by decide)) rfl ?_
        refine At.yes rfl rfl (tV (Val.bin rfl rfl rfl) rfl (tV (Val.pickF rfl rfl) rfl (At.nil ?_)))
        exact At.boolEnd rfl (by first | (rw [decide_eq_true (show SlotWd q6.1 by unfold SlotWd; omega)]; rfl) | (rw [decide_eq_false (show ¬ SlotWd q6.1 by unfold SlotWd; omega)]; rfl) | (apply Bool.eq_iff_iff.2; simp only [Bool.not_eq_true', decide_eq_false_iff_not, decide_eq_true_eq]; unfold SlotWd; omega)) (by repeat (first | exact Sub.nil | refine Sub.cons rfl ?_))
     ·simp only [List.drop_succ_cons, List.drop_zero]
      refine tE ?_
      refine At.cond rfl (fun h19 => ?_) (fun h19 => ?_)
      ·try simp only [vN_T, vN_F, nmE_T, nmE_F, wI_T, wI_F, data_T, data_F, ino_T, ino_F, notT, notF, bneT, bneF, beqT, beqF, decT, decF] at h19
       have hno := h19
       refine tR (tA rfl rfl (tE (At.retC (At.thenR (At.blkR (At.thenR (At.thenR (At.blkR (At.thenR (At.ret1 (.inl rfl) rfl rfl rfl (fun w hw => ?_)))))))))))
       exact ⟨retB (by first | exact (decide_eq_false (fun g => by have h1 := g.1; have h2 := g.2.1; omega)).symm | exact (decide_eq_false (good_no1 hqk hno)).symm | exact (decide_eq_false (good_no2 hqk (by assumption))).symm | exact (decide_eq_true ⟨by omega, by omega, hs.2⟩).symm), hw.mod⟩
      ·try simp only [vN_T, vN_F, nmE_T, nmE_F, wI_T, wI_F, data_T, data_F, ino_T, ino_F, notT, notF, bneT, bneF, beqT, beqF, decT, decF] at h19
       have hyes := h19
       refine At.skipC (At.thenN (tR (tM rfl rfl (tM rfl rfl (At.cutP (k) hv Tryz.underlying25 Tryz.sizeOf45 rfl ⟨_, _, rfl, by omega, by omega⟩ (by omega) rfl rfl (fun v20 hv21 => (tV (Val.makeFunc rfl) rfl ?_)))))))
       refine At.callP (fun w hw => undoHas_p _ (L.take k) b10 q6.1 w (hv21.mod hw.mod) ((hw.blk (i := 0) rfl).cell 0) (by rw [List.length_take]; omega)) Tryz.call111 rfl rfl (tE ?_)
       refine At.cond rfl (fun h22 => ?_) (fun h22 => ?_)
       ·try simp only [vN_T, vN_F, nmE_T, nmE_F, wI_T, wI_F, data_T, data_F, ino_T, ino_F, notT, notF, bneT, bneF, beqT, beqF, decT, decF] at h22
        refine tR (tA rfl rfl (tE (At.retC (At.blkR (At.thenR (At.thenR (At.blkR (At.thenR (At.ret1 (.inl rfl) rfl rfl rfl (fun w hw => ?_))))))))))
        exact ⟨retB (by first | exact (decide_eq_false (fun g => by have h1 := g.1; have h2 := g.2.1; omega)).symm | exact (decide_eq_false (good_no1 hqk hno)).symm | exact (decide_eq_false (good_no2 hqk (by assumption))).symm | exact (decide_eq_true ⟨by omega, by omega, hs.2⟩).symm), hw.mod⟩
       ·try simp only [vN_T, vN_F, nmE_T, nmE_F, wI_T, wI_F, data_T, data_F, ino_T, ino_F, notT, notF, bneT, bneF, beqT, beqF, decT, decF] at h22
        refine At.skipC (At.blkN (At.thenN (At.region ?_)))
        first | refine tV (Val.addI rfl rfl (by omega) (by omega)) rfl ?_ | refine tV (Val.bin rfl rfl rfl) rfl ?_
        refine tM rfl rfl (tE (At.drop 0 ?_))
        simp only [ec0, ecS]
        exact At.again (k + 1) ⟨by omega, fun j hj => by rcases Nat.lt_or_ge j k with h | h; exact hs.2 j h; obtain rfl : j = k := (by omega); exact okAt_of hqk hyes (by assumption)⟩ (by omega) (Sub.cons rfl (Sub.cons rfl (Sub.cons rfl (Sub.cons (congrArg (fun z => some (Value.int IntKind.i64 z)) (by omega)) Sub.nil)))) (List.Perm.refl _)
   ·try simp only [vN_T, vN_F, nmE_T, nmE_F, wI_T, wI_F, data_T, data_F, ino_T, ino_F, notT, notF, bneT, bneF, beqT, beqF, decT, decF] at h3
    obtain rfl : k = L.length := by omega
    refine At.exitC (At.thenX (At.thenX (At.blkX (At.thenN (tR (tA rfl rfl (tE (At.retC (At.ret1 (.inl rfl) rfl rfl rfl (fun w hw => ?_))))))))))
    exact ⟨retB (by first | exact (decide_eq_false (fun g => by have h1 := g.1; have h2 := g.2.1; omega)).symm | exact (decide_eq_false (good_no1 hqk hno)).symm | exact (decide_eq_false (good_no2 hqk (by assumption))).symm | exact (decide_eq_true ⟨by omega, by omega, hs.2⟩).symm), hw.mod⟩
end Go.Proofs.YtfchinibjhcejaaGreatDoor
namespace Go.Proofs.YtfchinibjhcejaaGreatDoor
open Go Go.Wk
theorem must_T (e : Int) (w : World) :
    PureC Tryz.prog 72 [.bool true, .int .i64 e] (.tuple #[]) w := by
 refine enter0 Tryz.func72 rfl Tryz.ntmps72 rfl ?_
 simp only [envOf]
 refine tR (tM rfl rfl (tV (Val.not rfl) rfl (tE (At.condF rfl (At.skipC (At.ret0 (.inr rfl) rfl rfl  (fun w hw => ?_)))))))
 exact ⟨rfl, hw.mod⟩
theorem must_F (e : Int) (w : World) :
    Throws0 Tryz.prog 72 [.bool false, .int .i64 e] (brk 175 e) w := by
 refine enter0 Tryz.func72 rfl Tryz.ntmps72 rfl ?_
 simp only [envOf]
 refine tR (tM rfl rfl (tV (Val.not rfl) rfl (tE (At.condT rfl (At.region (tM rfl rfl ?_))))))
 refine tV (Val.build (fun a ha => by simp only [List.map_toArray, List.map_cons, List.map_nil, ha.eval (x := (.tmp 6)) rfl] <;> rfl) (bld_175_0 _ )) rfl (tV (Val.mkIface Tryz.underlying175 rfl) rfl (At.panicOp rfl (At.fail rfl (fun w hw => ?_))))
 exact ⟨rfl, hw.mod⟩
theorem caughtSuper_idle (b1' b2' : Nat) (w : World) :
    Idle Tryz.prog 103 [.pointer (some ⟨b1', 0, none⟩), .pointer (some ⟨b2', 0, none⟩)] w := by
 refine CallsD.mono (enterC (v := .nilIface) (um' := .returning) (R := fun e w' => e = .returned (.tuple #[]) ∧ Mod (fun _ => False) w w') (fun _ => False) [] Tryz.func103 rfl Tryz.ntmps103 rfl rfl ⟨by simp, by simp, by simp, Mod.refl _ _⟩ (fun c₀ cs hu => .inr ⟨by simp [recoverD, hu], rfl, rfl⟩) ?_) (fun e u' w' h => ⟨h.2.1, h.1, h.2.2⟩)
 simp only [envOf]
 refine At.block (tR (tV (Val.ifNilNil (by kernel_rfl) rfl) rfl (tE (At.condT rfl (At.region (tA rfl rfl (At.nil (At.blkN (At.ret0 (.inr rfl) rfl rfl  (fun w hw => ?_))))))))))
 exact ⟨rfl, hw.mod⟩
theorem caughtSuper_pan (b1' b2' : Nat) (cs : List Value) (x : Value) (why : Int) (w : World) (h1 : Holds w b1' 23 cs) (hl : cs.length = 3) (h2 : Holds w b2' 37 [x]) (hne : b1' ≠ b2') :
    Catches Tryz.prog 103 [.pointer (some ⟨b1', 0, none⟩), .pointer (some ⟨b2', 0, none⟩)] (brk 175 why) (blk b1' 23 cs) (blk b2' 37 [x]) (blk b1' 23 [Value.int .i64 0, Value.int .i64 0, Value.int .i64 0]) (blk b2' 37 [.int .i64 why]) w := by
 refine CallsD.mono (enterC (v := .iface 175 (.agg #[.int .i64 why])) (um' := .panicking [{ v := .iface 175 (.agg #[.int .i64 why]), recovered := true }]) (R := fun e w' => e = .returned (.tuple #[]) ∧ Rep w (feet [(blk b1' 23 cs), (blk b2' 37 [x])]) [(blk b1' 23 [Value.int .i64 0, Value.int .i64 0, Value.int .i64 0]), (blk b2' 37 [.int .i64 why])] w') (feet [(blk b1' 23 cs), (blk b2' 37 [x])]) [(blk b1' 23 cs), (blk b2' 37 [x])] Tryz.func103 rfl Tryz.ntmps103 rfl rfl (Rep.start (by simp only [List.pairwise_cons, List.mem_singleton, forall_eq, List.not_mem_nil, false_implies, implies_true, List.Pairwise.nil, and_true]; exact fun b (hb1 : b = b1') (hb2 : b = b2') => hne (hb1.symm.trans hb2)) (fun r hr => by rcases List.mem_cons.1 hr with rfl | hr; exact h1; rcases List.mem_cons.1 hr with rfl | hr; exact h2; cases hr)) (fun c₀ cs hu => .inl (by simp [recoverD, hu])) ?_) (fun e u' w' h => ⟨h.2.1, by rw [h.1]; rfl, h.2.2⟩)
 simp only [envOf]
 refine At.block (tR (tV (Val.ifHeldNil (by kernel_rfl) rfl) rfl (tE (At.condF rfl (tR (tV (Val.assertIs Tryz.underlying175 rfl) rfl (tV (Val.extract rfl rfl) rfl (tV (Val.extract rfl rfl) rfl (tE (At.condT rfl (tR (At.alloc Tryz.zeroValue175 rfl rfl (fun b1 => (At.storeAll (i := 0) Tryz.sizeOf175 rfl rfl rfl (by simp [Value.oneCell']) rfl rfl ?_))))))))))))))
 simp only [sc0, scS]
 refine tE (tR (At.alloc Tryz.zeroValue23 rfl rfl (fun b2 => (tE (At.mid 7 6 [blk b2 23 [Value.int .i64 0, Value.int .i64 0, Value.int .i64 0], blk b1 175 [_], blkP b1' 23 (fun _ => True), blk b2' 37 ([x])] [blk b2 23 [Value.int .i64 0, Value.int .i64 0, Value.int .i64 0], blk b1 175 [_], blk b1' 23 [Value.int .i64 0, Value.int .i64 0, Value.int .i64 0], blk b2' 37 ([x])] rfl (by decide +kernel) (by decide) rfl rfl (fun w hw => hw.blkP (i := 2) (fun _ => True) rfl trivial) (fun w hw => hw.blkP (i := 2) (fun _ => True) rfl trivial) ?_)))))
 simp only [List.take_succ_cons, List.take_zero, List.drop_succ_cons, List.drop_zero]
 refine PAt.val (Val.move rfl) rfl rfl rfl rfl (PAt.val (Val.move rfl) rfl rfl rfl rfl (PAt.val (Val.loadAll (i := 0) Tryz.isAgg23 Tryz.sizeOf23 rfl rfl rfl) rfl rfl rfl rfl (PAt.val (Val.field 0 rfl fo_175_0 rfl) rfl rfl rfl rfl (PAt.val (Val.load (i := 1) Tryz.isAgg37 rfl rfl rfl) rfl rfl rfl rfl (PAt.val (Val.nilCheck rfl) rfl rfl rfl rfl (PAt.midS (fun a' w' ha' hw' => storeAll_step (i := 2) Tryz.sizeOf23 rfl rfl rfl (by simp [Value.oneCell']) rfl hl a' w' ha' hw') rfl rfl (PAt.fin (tV (Val.nilCheck rfl) rfl (At.store (i := 3) Tryz.sizeOf37 rfl rfl rfl rfl (by first | decide | simp) ?_)))))))))
 simp only [sc0, scS]
 refine At.nil (At.drop 0 (At.drop 0 ?_))
 simp only [ec0, ecS]
 refine At.blkN (At.ret0 (.inr rfl) rfl rfl  (fun w hw => ?_))
 exact ⟨rfl, hw⟩
theorem caughtUndos_idle (b1' b2' : Nat) (w : World) :
    Idle Tryz.prog 71 [.pointer (some ⟨b1', 0, none⟩), .pointer (some ⟨b2', 0, none⟩)] w := by
 refine CallsD.mono (enterC (v := .nilIface) (um' := .returning) (R := fun e w' => e = .returned (.tuple #[]) ∧ Mod (fun _ => False) w w') (fun _ => False) [] Tryz.func71 rfl Tryz.ntmps71 rfl rfl ⟨by simp, by simp, by simp, Mod.refl _ _⟩ (fun c₀ cs hu => .inr ⟨by simp [recoverD, hu], rfl, rfl⟩) ?_) (fun e u' w' h => ⟨h.2.1, h.1, h.2.2⟩)
 simp only [envOf]
 refine At.block (tR (tV (Val.ifNilNil (by kernel_rfl) rfl) rfl (tE (At.condT rfl (At.region (tA rfl rfl (At.nil (At.blkN (At.ret0 (.inr rfl) rfl rfl  (fun w hw => ?_))))))))))
 exact ⟨rfl, hw.mod⟩
theorem caughtUndos_pan (b1' b2' : Nat) (c0 : Value) (x : Value) (why : Int) (w : World) (h1 : Holds w b1' 25 [c0]) (hl : [c0].length = 1) (h2 : Holds w b2' 37 [x]) (hne : b1' ≠ b2') :
    Catches Tryz.prog 71 [.pointer (some ⟨b1', 0, none⟩), .pointer (some ⟨b2', 0, none⟩)] (brk 175 why) (blk b1' 25 [c0]) (blk b2' 37 [x]) (blk b1' 25 [Value.slice none 0 0]) (blk b2' 37 [.int .i64 why]) w := by
 refine CallsD.mono (enterC (v := .iface 175 (.agg #[.int .i64 why])) (um' := .panicking [{ v := .iface 175 (.agg #[.int .i64 why]), recovered := true }]) (R := fun e w' => e = .returned (.tuple #[]) ∧ Rep w (feet [(blk b1' 25 [c0]), (blk b2' 37 [x])]) [(blk b1' 25 [Value.slice none 0 0]), (blk b2' 37 [.int .i64 why])] w') (feet [(blk b1' 25 [c0]), (blk b2' 37 [x])]) [(blk b1' 25 [c0]), (blk b2' 37 [x])] Tryz.func71 rfl Tryz.ntmps71 rfl rfl (Rep.start (by simp only [List.pairwise_cons, List.mem_singleton, forall_eq, List.not_mem_nil, false_implies, implies_true, List.Pairwise.nil, and_true]; exact fun b (hb1 : b = b1') (hb2 : b = b2') => hne (hb1.symm.trans hb2)) (fun r hr => by rcases List.mem_cons.1 hr with rfl | hr; exact h1; rcases List.mem_cons.1 hr with rfl | hr; exact h2; cases hr)) (fun c₀ cs hu => .inl (by simp [recoverD, hu])) ?_) (fun e u' w' h => ⟨h.2.1, by rw [h.1]; rfl, h.2.2⟩)
 simp only [envOf]
 refine At.block (tR (tV (Val.ifHeldNil (by kernel_rfl) rfl) rfl (tE (At.condF rfl (tR (tV (Val.assertIs Tryz.underlying175 rfl) rfl (tV (Val.extract rfl rfl) rfl (tV (Val.extract rfl rfl) rfl (tE (At.condT rfl (tR (At.alloc Tryz.zeroValue175 rfl rfl (fun b1 => (At.storeAll (i := 0) Tryz.sizeOf175 rfl rfl rfl (by simp [Value.oneCell']) rfl rfl ?_))))))))))))))
 simp only [sc0, scS]
 refine tE (tR (tA rfl rfl (tE (At.mid 7 6 [blk b1 175 [_], blkP b1' 25 (fun _ => True), blk b2' 37 ([x])] [blk b1 175 [_], blk b1' 25 [Value.slice none 0 0], blk b2' 37 ([x])] rfl (by decide +kernel) (by decide) rfl rfl (fun w hw => hw.blkP (i := 1) (fun _ => True) rfl trivial) (fun w hw => hw.blkP (i := 1) (fun _ => True) rfl trivial) ?_))))
 simp only [List.take_succ_cons, List.take_zero, List.drop_succ_cons, List.drop_zero]
 refine PAt.val (Val.move rfl) rfl rfl rfl rfl (PAt.val (Val.move rfl) rfl rfl rfl rfl (PAt.val (Val.move rfl) rfl rfl rfl rfl (PAt.val (Val.field 0 rfl fo_175_0 rfl) rfl rfl rfl rfl (PAt.val (Val.load (i := 0) Tryz.isAgg37 rfl rfl rfl) rfl rfl rfl rfl (PAt.val (Val.nilCheck rfl) rfl rfl rfl rfl (PAt.midS (fun a' w' ha' hw' => storeOne_step (i := 1) (v := .slice none 0 0) (cs := [c0]) (off := 0) Tryz.sizeOf25 rfl rfl rfl rfl (by simp) a' w' ha' hw') rfl rfl (PAt.fin (tV (Val.nilCheck rfl) rfl (At.store (i := 2) Tryz.sizeOf37 rfl rfl rfl rfl (by first | decide | simp) ?_)))))))))
 simp only [sc0, scS]
 refine At.nil (At.drop 0 ?_)
 simp only [ec0, ecS]
 refine At.blkN (At.ret0 (.inr rfl) rfl rfl  (fun w hw => ?_))
 exact ⟨rfl, hw⟩
end Go.Proofs.YtfchinibjhcejaaGreatDoor
namespace Go.Proofs.YtfchinibjhcejaaGreatDoor
open Go Go.Wk
theorem sealR_p (a : Int) (v : BitVec 32) (w : World) :
    PureC Tryz.prog 65 [.int .i64 a, b32 v] (b64 (sealW (BitVec.ofInt 64 a) v)) w := by
 refine enter0 Tryz.func65 rfl Tryz.ntmps65 rfl ?_
 simp only [envOf]
 refine tR (tA rfl rfl (tE (At.seq (tR (tM rfl rfl (tV (Val.bin rfl rfl rfl) rfl (tE ?_)))))))
 refine At.cond rfl (fun h1 => ?_) (fun h1 => ?_)
 ·refine tR (tA rfl rfl (tE (At.retC (At.thenR (At.ret1 (.inl rfl) rfl rfl rfl (fun w hw => ?_))))))
  exact ⟨by rw [seal_zero (by have := h1; simp at this; exact BitVec.eq_of_toNat_eq (by simpa using this))]; rfl, hw.mod⟩
 ·refine At.skipC (At.thenN (tR (tA rfl rfl (tE (tR (tM rfl rfl (tM rfl rfl (tV (Val.conv Tryz.underlying3 Tryz.underlying43 rfl) rfl ?_))))))))
  rw [wrap_u64_int]
  refine At.rowNil 5 1 ?_
  refine At.callR 0 rfl (fun w hw hr => rlay_p _ [] (BitVec.ofInt 64 a).toNat 8 w hr (by have := (BitVec.ofInt 64 a).isLt; omega) (by decide) (by decide)) Tryz.call63 rfl rfl (fun v2 => ?_)
  simp only [sc0, scS]
  refine tA rfl rfl (tE (tR (tM rfl rfl (tM rfl rfl (tV (Val.conv Tryz.underlying106 Tryz.underlying43 rfl) rfl ?_)))))
  rw [wrap_u64 (n := (v.toNat : Int)) (by omega) (by have := v.isLt; omega)]
  refine At.callR 0 rfl (fun w hw hr => rlay_p _ ([] ++ le 8 (BitVec.ofInt 64 a).toNat) v.toNat 4 w hr (by have := v.isLt; omega) (by decide) (by simp [le_length])) Tryz.call63 rfl rfl (fun v3 => ?_)
  simp only [sc0, scS]
  refine tA rfl rfl (At.nil (At.rowIs (i := 0) rfl (fun A4 c5 hv => ?_)))
  subst hv
  refine At.thenN (tR (tM rfl rfl (At.callP (fun w hw => rsum_n A4 ([] ++ le 8 (BitVec.ofInt 64 a).toNat ++ le 4 v.toNat) _ c5 w rfl (row_bytes (hw.row (i := 0) rfl)) (by simp [le_length])) Tryz.call64 rfl rfl (tA rfl rfl (tE (tR (tM rfl rfl (tV (Val.conv Tryz.underlying106 Tryz.underlying43 rfl) rfl (tV (Val.bin rfl rfl rfl) rfl (tM rfl rfl (tV (Val.conv Tryz.underlying106 Tryz.underlying43 rfl) rfl (tV (Val.bin rfl rfl rfl) rfl (tA rfl rfl (tE (At.retC (At.ret1 (.inl rfl) rfl rfl rfl (fun w hw => ?_)))))))))))))))))
  have hv : v ≠ 0 := by intro e; subst e; simp at h1
  have hn := seal_nat (a := (BitVec.ofInt 64 a)) hv
  have hl := (checkW (BitVec.ofInt 64 a) v).isLt
  have hl2 := v.isLt
  exact ⟨retI (by rw [show sumOn 0 ([] ++ le 8 (BitVec.ofInt 64 a).toNat ++ le 4 v.toNat) = checkW (BitVec.ofInt 64 a) v from rfl, wrap_u64 (n := ((checkW (BitVec.ofInt 64 a) v).toNat : Int)) (by omega) (by omega), wrap_u64 (n := ((checkW (BitVec.ofInt 64 a) v).toNat : Int) * 4294967296) (by omega) (by omega), wrap_u64 (n := (v.toNat : Int)) (by omega) (by omega), wrap_u64 (by omega) (by omega), hn]; omega), hw.mod⟩
theorem held_T (a : Int) (x : BitVec 64) (why : Int) (w : World) (ht : Tab w) (hs : sealW (BitVec.ofInt 64 a) (x.setWidth 32) = x) :
    PureC Tryz.prog 73 [.int .i64 a, b64 x, .int .i64 why] (.int .i64 ((x.setWidth 32).toNat : Nat)) w := by
 refine enter0 Tryz.func73 rfl Tryz.ntmps73 rfl ?_
 simp only [envOf]
 refine tR (tA rfl rfl (tE (tR (tM rfl rfl (tM rfl rfl ?_)))))
 refine At.callP (fun w hw => (by have := unseal_p a x w (ht.mod hw.mod); rwa [unseal_yes hs] at this)) Tryz.call109 rfl rfl (tM rfl rfl (tV (Val.extract rfl rfl) rfl (tV (Val.extract rfl rfl) rfl (tA rfl rfl (tA rfl rfl (tE (tR (tM rfl rfl (tV (Val.bin rfl rfl rfl) rfl (tM rfl rfl (At.callP (fun w hw => must_T _ w) Tryz.call72 rfl rfl (tE (tR (tM rfl rfl (tV (Val.conv Tryz.underlying106 Tryz.underlying3 rfl) rfl ?_)))))))))))))))
 rw [i64_32]
 refine tA rfl rfl (tE (At.retC (At.ret1 (.inl rfl) rfl rfl rfl (fun w hw => ?_))))
 exact ⟨rfl, hw.mod⟩
theorem held_F (a : Int) (x : BitVec 64) (why : Int) (w : World) (ht : Tab w) (hs : ¬ sealW (BitVec.ofInt 64 a) (x.setWidth 32) = x) :
    Throws0 Tryz.prog 73 [.int .i64 a, b64 x, .int .i64 why] (brk 175 why) w := by
 refine enter0 Tryz.func73 rfl Tryz.ntmps73 rfl ?_
 simp only [envOf]
 refine tR (tA rfl rfl (tE (tR (tM rfl rfl (tM rfl rfl ?_)))))
 refine At.callP (fun w hw => (by have := unseal_p a x w (ht.mod hw.mod); rwa [unseal_no hs] at this)) Tryz.call109 rfl rfl (tM rfl rfl (tV (Val.extract rfl rfl) rfl (tV (Val.extract rfl rfl) rfl (tA rfl rfl (tA rfl rfl (tE (tR (tM rfl rfl (tV (Val.bin rfl rfl rfl) rfl (tM rfl rfl (At.callT0 (fun w hw => must_F _ w) Tryz.call72 rfl (At.thenE (At.fail rfl (fun w hw => ?_))))))))))))))
 exact ⟨rfl, hw.mod⟩
def GoodH (p n o : Int) : Prop := 5 ≤ p ∧ p ≤ 1023 ∧ 1 ≤ o ∧ o ≤ 256 ∧ (n = 0 ∨ 5 ≤ n ∧ n ≤ 1023)
instance (p n o : Int) : Decidable (GoodH p n o) := by unfold GoodH; infer_instance
def GoodH1 (n o : Int) : Prop := 1 ≤ o ∧ o ≤ 256 ∧ (n = 0 ∨ 5 ≤ n ∧ n ≤ 1023)
instance (n o : Int) : Decidable (GoodH1 n o) := by unfold GoodH1; infer_instance
end Go.Proofs.YtfchinibjhcejaaGreatDoor
namespace Go.Proofs.YtfchinibjhcejaaGreatDoor
open Go Go.Wk
theorem filled_p (v : Value) (l : List UInt8) (n : Nat) (w : World) (ho : w.ownsRow 0 5 1 v l.length (l.map bv)) (hlen : l.length ≤ 140737488355328) (hn : n ≤ 140737488355328) :
    RowUpd Tryz.prog 66 [v, .int .i64 (n : Int)] v 5 1 l.length (l.map bv) (l ++ zs (n - l.length)).length ((l ++ zs (n - l.length)).map bv) w := by
 refine enter (feet [brow 5 v l]) [brow 5 v l] Tryz.func66 rfl Tryz.ntmps66 rfl (Rep.one ho) ?_
 simp only [envOf]
 refine tR (tA rfl rfl (tE (At.seq (At.block ?_))))
 skip
 refine At.loop (σ := Nat × Value) (fun s => s.1 ≤ n - l.length) (fun s => [(0, s.2), (1, .int .i64 (n : Int))]) (fun s => [brow 5 s.2 (l ++ zs s.1)]) (fun s => n - l.length - s.1) (0, v) (Nat.zero_le _) (Sub.cons rfl (Sub.cons rfl Sub.nil)) (by simp [zs]) ?_
 intro s hs
 obtain ⟨k, vk⟩ := s
 dsimp only at hs ⊢
 refine At.seq (tR (tM rfl rfl (tV (Val.lenRow (i := 0) Tryz.underlying29 rfl rfl) rfl (tM rfl rfl (tV (Val.bin rfl rfl rfl) rfl (tE ?_))))))
 refine At.cond rfl (fun h1 => ?_) (fun h1 => ?_)
 ·have hk : l.length + k < n := by have := h1; simp [zs_length] at this; omega
  refine At.skipC (At.thenN (At.block (At.region (tM rfl rfl (At.buildSl (fun a ha => by simp only [List.map_toArray, List.map_cons, List.map_nil, ha.eval (x := (.const (.int .u8 (0)))) rfl]; try rfl) (bs_29_1 _ ) rfl (fun b2 => (At.append (i := 1) (sz := 1) (by_ := 1) Tryz.underlying29 info_5 rfl rfl rfl rfl rfl rfl rfl rfl rfl (fun w hw j u hj => by rw [Nat.zero_add]; exact ((hw.blk (i := 0) rfl).cell j).trans hj) (by simp [Value.oneCell']) (by rw [List.length_append, zs_length]; omega) (by rw [List.length_append, zs_length]; omega) rfl (fun v3 => ?_))))))))
  simp only [sc0, scS]
  refine At.drop 0 ?_
  simp only [ec0, ecS]
  refine tA rfl rfl (At.nil ?_)
  rw [show Value.int .u8 0 = bv 0 from rfl, brow_snoc, List.append_assoc, zs_succ]
  refine At.blkN (At.thenN ?_)
  exact At.again (k + 1, v3) (show k + 1 ≤ _ by omega) (by dsimp only; omega) (Sub.cons rfl (Sub.cons rfl Sub.nil)) (List.Perm.refl _)
 ·have hk : k = n - l.length := by have := h1; simp [zs_length] at this; omega
  refine At.exitC (At.thenX (At.thenX (At.blkX (At.thenN (tR (tM rfl rfl (tA rfl rfl (tE (At.retC (At.ret1 (.inl rfl) rfl rfl rfl (fun w hw => ?_)))))))))))
  exact ⟨vk, rfl, by have := hw; rw [hk] at this; exact this⟩
theorem line_p (v : Value) (l : List UInt8) (w : World) (ho : w.ownsRow 0 5 1 v l.length (l.map bv)) (hlen : l.length ≤ 60) :
    Use Tryz.prog 68 [v] (brow 5 v l) (lineV l) w := by
 refine enter (feet [brow 5 v l]) [brow 5 v l] Tryz.func68 rfl Tryz.ntmps68 rfl (Rep.one ho) ?_
 have hL := lineL_row hlen
 have hL4 := lineL_length hlen
 have h60 : (l ++ zs (60 - l.length)).length = 60 := by simp [zs]; omega
 simp only [envOf]
 refine tR (At.alloc zero_82 zc_82 rfl (fun b1 => (tE (tR (tM rfl rfl (At.callR 1 rfl (fun w hw hr => filled_p _ _ 60 w hr (by omega) (by decide)) Tryz.call66 rfl rfl (fun v2 => ?_)))))))
 simp only [sc0, scS]
 refine tA rfl rfl (At.nil (At.rowIs (i := 1) rfl (fun A3 c4 hv => ?_)))
 subst hv
 refine At.thenN (tR (tM rfl rfl (At.callP (fun w hw => rsum_n A3 (l ++ zs (60 - l.length)) _ c4 w rfl (row_bytes (hw.row (i := 1) rfl)) (by omega)) Tryz.call64 rfl rfl (tA rfl rfl (tE (tR (tM rfl rfl (tM rfl rfl (tV (Val.conv Tryz.underlying106 Tryz.underlying43 rfl) rfl ?_)))))))))
 rw [wrap_u64 (n := ((sumOn 0 (l ++ zs (60 - l.length))).toNat : Int)) (by omega) (by have := (sumOn 0 (l ++ zs (60 - l.length))).isLt; omega)]
 refine At.callR 1 rfl (fun w hw hr => rlay_p _ _ _ 4 w hr (by have := (sumOn 0 (l ++ zs (60 - l.length))).isLt; omega) (by decide) (by omega)) Tryz.call63 rfl rfl (fun v5 => ?_)
 simp only [sc0, scS]
 refine tA rfl rfl (At.nil ?_)
 rw [← hL]
 refine At.thenN (tR (At.alloc zero_82 zc_82 rfl (fun b6 => (tE (At.seq (tR (tA rfl rfl (tE (At.block ?_)))))))))
 skip
 refine At.loop (σ := Nat) (fun k => k ≤ 64) (fun k => [(0, v5), (2, .pointer (some ⟨b1, 0, none⟩)), (4, .pointer (some ⟨b6, 0, none⟩)), (5, .int .i64 (k : Int))]) (fun k => [blk b6 82 ((fillTo (lineL l) (zs 64) k).map bv), blk b1 82 (List.replicate 64 (Value.int .u8 0)), rowR v5 5 1 ((lineL l).length) ((lineL l).map bv)]) (fun k => 64 - k) 0 (by omega) (Sub.cons rfl (Sub.cons rfl (Sub.cons rfl (Sub.cons rfl Sub.nil)))) (List.Perm.refl _) ?_
 intro k hs
 refine At.seq (tR (tM rfl rfl (tV (Val.bin rfl rfl rfl) rfl (tE ?_))))
 refine At.cond rfl (fun h7 => ?_) (fun h7 => ?_)
 ·have hk : k < 64 := by have := h7; simp at this; omega
  obtain ⟨c, hc⟩ : ∃ c, (lineL l)[k]? = some c := ⟨_, List.getElem?_eq_getElem (by omega)⟩
  refine At.skipC (At.thenN (At.seq (At.block (At.region (tM rfl rfl (tM rfl rfl (tM rfl rfl (tV (Val.indexRow (i := 2) k (by simp) Tryz.underlying29 Tryz.sizeOf5 rfl rfl rfl (by omega) (by omega)) rfl ?_))))))))
  refine tV (Val.loadRow (i := 2) (u := bv c) Tryz.isAgg5 rfl rfl (by rw [List.getElem?_map, hc]; rfl)) rfl ?_
  refine tV (Val.indexArr k (by simp) Tryz.underlying82 Tryz.sizeOf5 rfl rfl (by omega) (by omega)) rfl ?_
  refine At.store (i := 0) (v := bv c) Tryz.sizeOf5 rfl rfl rfl rfl (by rw [fill_len (by simp [hL4, zs_length]), hL4]; exact hk) ?_
  simp only [sc0, scS]
  rw [fill_step hc (by simp [hL4, zs_length])]
  refine At.nil (At.blkN (At.thenN (At.region (tM rfl rfl (tV (Val.bin rfl rfl rfl) rfl (tA rfl rfl (tE ?_)))))))
  exact At.again (k + 1) (by omega) (by omega) (Sub.cons rfl (Sub.cons rfl (Sub.cons rfl (Sub.cons (congrArg (fun z => some (Value.int IntKind.i64 z)) (wrap_i64 (by omega) (by omega))) Sub.nil)))) (List.Perm.refl _)
 ·have hk : k = 64 := by have := h7; simp at this; omega
  refine At.exitC (At.thenX (At.thenX (At.blkX (At.thenN (tR (tV (Val.loadAll (i := 0) Tryz.isAgg82 Tryz.sizeOf82 rfl rfl (by rw [fill_len (by simp [hL4, zs_length]), hL4])) rfl (At.storeAll (i := 1) Tryz.sizeOf82 rfl rfl (by rw [fill_len (by simp [hL4, zs_length]), hL4]) (by simp [Value.oneCell']) rfl (by simp) ?_)))))))
  simp only [sc0, scS]
  refine tE (At.retC (At.ret1 (.inl rfl) rfl rfl (ResOf.all (i := 1) Tryz.isAgg82 Tryz.sizeOf82 rfl rfl (by rw [fill_len (by simp [hL4, zs_length]), hL4])) (fun w hw => ?_)))
  exact ⟨by rw [hk, fillTo_all hL4 (zs_length 64)]; rfl, hw.drop (List.nil_sublist _)⟩
end Go.Proofs.YtfchinibjhcejaaGreatDoor
namespace Go.Proofs.YtfchinibjhcejaaGreatDoor
open Go Go.Wk
def undoWs (L : List (Int × BitVec 64)) : List (BitVec 64) := L.flatMap fun c => [BitVec.ofInt 64 c.1, c.2]
theorem undoWs_snoc (L : List (Int × BitVec 64)) (c : Int × BitVec 64) : undoWs (L ++ [c]) = undoWs L ++ [BitVec.ofInt 64 c.1, c.2] := by simp [undoWs]
theorem undoWs_length (L : List (Int × BitVec 64)) : (undoWs L).length = 2 * L.length := by
  induction L with
  | nil => rfl
  | cons c L ih => unfold undoWs at *; simp only [List.flatMap_cons, List.length_append, List.length_cons, List.length_nil, ih]; omega
def recB (L : List (Int × BitVec 64)) : List UInt8 := bytesW (undoWs L)
theorem recB_length (L : List (Int × BitVec 64)) : (recB L).length = 16 * L.length := by unfold recB; rw [bytesW_length, undoWs_length]; omega
theorem recB_snoc (L : List (Int × BitVec 64)) (c : Int × BitVec 64) : recB (L ++ [c]) = recB L ++ le 8 (BitVec.ofInt 64 c.1).toNat ++ le 8 c.2.toNat := by
  unfold recB; rw [undoWs_snoc, bytesW_append, List.append_assoc]; rfl
def headB (n : Int) (s : BitVec 32) : List UInt8 := le 8 (sealW (BitVec.ofInt 64 512) (BitVec.ofInt 32 n)).toNat ++ le 8 (sealW (BitVec.ofInt 64 520) s).toNat
theorem headB_length (n : Int) (s : BitVec 32) : (headB n s).length = 16 := by unfold headB; rw [List.length_append, le_length, le_length]
def undoB (L : List (Int × BitVec 64)) : List UInt8 := headB L.length (sumOn 0 (recB L)) ++ zs 48 ++ recB L
theorem undoB_length (L : List (Int × BitVec 64)) : (undoB L).length = 64 + 16 * L.length := by unfold undoB; rw [List.length_append, List.length_append, headB_length, zs_length, recB_length]
noncomputable def packB (L : List (Int × BitVec 64)) : List UInt8 := if GoodUn L then undoB L else []
noncomputable def packE (L : List (Int × BitVec 64)) : Int := if GoodUn L then 0 else 35
theorem packB_T {L : List (Int × BitVec 64)} (h : GoodUn L) : packB L = undoB L := if_pos h
theorem packB_F {L : List (Int × BitVec 64)} (h : ¬ GoodUn L) : packB L = [] := if_neg h
theorem packE_T {L : List (Int × BitVec 64)} (h : GoodUn L) : packE L = 0 := if_pos h
theorem packE_F {L : List (Int × BitVec 64)} (h : ¬ GoodUn L) : packE L = 35 := if_neg h
theorem hasAt_hit {L : List (Int × BitVec 64)} {j k : Nat} {d : Int × BitVec 64} {a : Int} (h : L[j]? = some d) (hj : j < k) (e : d.1 = a) : hasAt (L.take k) a = true :=
  hasAt_T.2 ⟨j, d, by rw [List.getElem?_take, if_pos hj]; exact h, e⟩
theorem hasAt_step {L : List (Int × BitVec 64)} {j : Nat} {d : Int × BitVec 64} {a : Int} (h : L[j]? = some d) (e : ¬ d.1 = a) (h0 : hasAt (L.take j) a = false) : hasAt (L.take (j + 1)) a = false := by
  rw [List.take_succ_of_get h]; unfold hasAt at *; rw [List.any_append, h0]; simp; exact e
theorem pr_eq {L : List (Int × BitVec 64)} {k : Nat} {a b : Int × BitVec 64} (h1 : L[(k : Int).toNat]? = some a) (h2 : L[k]? = some b) : a = b := by
  rw [Int.toNat_natCast, h2] at h1; exact (Option.some.inj h1).symm
theorem sumRd_p (v : Value) (l : List UInt8) (w : World) (hv : RdB w v l) (ht : Tab w) (hlen : l.length ≤ 140737488355328) : PureC Tryz.prog 75 [v] (b32 (sumOn 0 l)) w := by
  obtain ⟨A, c, rfl, hb, _⟩ := hv.bytes; exact sum_p A l c w hb ht hlen
theorem rsumRd_p (v : Value) (l : List UInt8) (w : World) (hv : RdB w v l) (hlen : l.length ≤ 140737488355328) : PureC Tryz.prog 64 [v] (b32 (sumOn 0 l)) w := by
  obtain ⟨A, c, rfl, hb, _⟩ := hv.bytes; exact rsum_p A l c w hb hlen
theorem slotWord_p (a : Int) (w : World) :
    PureC Tryz.prog 101 [.int .i64 a] (.bool (decide (SlotWd a))) w := by
 refine enter0 Tryz.func101 rfl Tryz.ntmps101 rfl ?_
 simp only [envOf]
 refine tR (tA rfl rfl (tE (At.seq (tR (tA rfl rfl (tE (At.block ?_)))))))
 skip
 refine At.loop (σ := Nat) (fun k => 1 ≤ k ∧ k ≤ 257 ∧ ¬ (SlotWd a ∧ (a - 2048) / 64 + 1 < k)) (fun k => [(0, .int .i64 a), (3, .int .i64 (k : Int))]) (fun k => []) (fun k => 257 - k) 1 ⟨by omega, by omega, fun h => by have h1 := h.1; unfold SlotWd at h1; omega⟩ (Sub.cons rfl (Sub.cons rfl Sub.nil)) (List.Perm.refl _) ?_
 intro k hs
 refine At.seq (tR (tM rfl rfl (tV (Val.bin rfl rfl rfl) rfl (tE ?_))))
 refine At.cond rfl (fun h1 => ?_) (fun h1 => ?_)
 ·try simp only [vN_T, vN_F, nmE_T, nmE_F, wI_T, wI_F, data_T, data_F, ino_T, ino_F, notT, notF, bneT, bneF, beqT, beqF, decT, decF] at h1
  have hk : k ≤ 256 := by omega
  refine At.skipC (At.thenN (At.seq (At.block (tR (tM rfl rfl (At.callP (fun w hw => slotAtR_p k w) Tryz.call136 rfl rfl (tA rfl rfl (At.nil ?_))))))))
  rw [slotAt_T (ino_T.2 ⟨by omega, by omega⟩)]
  refine At.thenN (tR (At.weaken [(0, _), (3, _), (5, _), (6, _), (9, _), (10, _), (4, _)] (Sub.cons rfl (Sub.cons rfl (Sub.cons rfl (Sub.cons rfl (Sub.cons rfl (Sub.cons rfl (Sub.cons rfl Sub.nil))))))) ?_))
  refine At.boolMeet 15 25 (decide (a = 2048 + 64 * ((k : Int) - 1) ∨ a = 2048 + 64 * ((k : Int) - 1) + 8 ∨ a = 2048 + 64 * ((k : Int) - 1) + 16)) ?_ ?_
  ·simp only [List.take_succ_cons, List.take_zero]
   refine tM rfl rfl (tM rfl rfl (tV (Val.bin rfl rfl rfl) rfl (tM rfl rfl ?_)))
   refine At.split (t := 14) rfl (fun h2 => ?_) (fun h2 => ?_)
   ·try simp only [vN_T, vN_F, nmE_T, nmE_F, wI_T, wI_F, data_T, data_F, ino_T, ino_F, notT, notF, bneT, bneF, beqT, beqF, decT, decF] at h2
    refine At.no rfl rfl rfl rfl (At.no rfl rfl rfl rfl (At.no rfl rfl rfl rfl (At.no rfl rfl rfl rfl (tV (Val.pickT rfl rfl) rfl (tM rfl rfl (At.no rfl rfl rfl rfl (At.no rfl rfl rfl rfl (At.no rfl rfl rfl rfl (At.no rfl rfl rfl rfl (tV (Val.pickT rfl rfl) rfl (At.nil ?_)))))))))))
    exact At.boolEnd rfl (by first | rfl | exact (decide_eq_true (by omega)).symm | exact (decide_eq_false (by omega)).symm | (apply Bool.eq_iff_iff.2; simp only [decide_eq_true_eq, beq_iff_eq, bne_iff_ne, ne_eq, wI_T, data_T, ino_T, vN_T, nmE_T, Bool.not_eq_true', wI_F, data_F, ino_F, vN_F, nmE_F, decide_eq_false_iff_not]; omega)) (by repeat (first | exact Sub.nil | refine Sub.cons rfl ?_))
   ·try simp only [vN_T, vN_F, nmE_T, nmE_F, wI_T, wI_F, data_T, data_F, ino_T, ino_F, notT, notF, bneT, bneF, beqT, beqF, decT, decF] at h2
    refine At.yes rfl rfl (tM rfl rfl (At.yes rfl rfl (tM rfl rfl (At.yes rfl rfl ?_))))
    first | refine tV (Val.addI rfl rfl (by omega) (by omega)) rfl ?_ | refine tV (Val.bin rfl rfl rfl) rfl ?_
    refine At.yes rfl rfl (tV (Val.bin rfl rfl rfl) rfl (tV (Val.pickF rfl rfl) rfl (tM rfl rfl ?_)))
    refine At.split (t := 20) rfl (fun h3 => ?_) (fun h3 => ?_)
    ·try simp only [vN_T, vN_F, nmE_T, nmE_F, wI_T, wI_F, data_T, data_F, ino_T, ino_F, notT, notF, bneT, bneF, beqT, beqF, decT, decF] at h3
     refine At.no rfl rfl rfl rfl (At.no rfl rfl rfl rfl (At.no rfl rfl rfl rfl (At.no rfl rfl rfl rfl (tV (Val.pickT rfl rfl) rfl (At.nil ?_)))))
     exact At.boolEnd rfl (by first | rfl | exact (decide_eq_true (by omega)).symm | exact (decide_eq_false (by omega)).symm | (apply Bool.eq_iff_iff.2; simp only [decide_eq_true_eq, beq_iff_eq, bne_iff_ne, ne_eq, wI_T, data_T, ino_T, vN_T, nmE_T, Bool.not_eq_true', wI_F, data_F, ino_F, vN_F, nmE_F, decide_eq_false_iff_not]; omega)) (by repeat (first | exact Sub.nil | refine Sub.cons rfl ?_))
    ·try simp only [vN_T, vN_F, nmE_T, nmE_F, wI_T, wI_F, data_T, data_F, ino_T, ino_F, notT, notF, bneT, bneF, beqT, beqF, decT, decF] at h3
     refine At.yes rfl rfl (tM rfl rfl (At.yes rfl rfl (tM rfl rfl (At.yes rfl rfl ?_))))
     first | refine tV (Val.addI rfl rfl (by omega) (by omega)) rfl ?_ | refine tV (Val.bin rfl rfl rfl) rfl ?_
     refine At.yes rfl rfl (tV (Val.bin rfl rfl rfl) rfl (tV (Val.pickF rfl rfl) rfl (At.nil ?_)))
     exact At.boolEnd rfl (by first | rfl | exact (decide_eq_true (by omega)).symm | exact (decide_eq_false (by omega)).symm | (apply Bool.eq_iff_iff.2; simp only [decide_eq_true_eq, beq_iff_eq, bne_iff_ne, ne_eq, wI_T, data_T, ino_T, vN_T, nmE_T, Bool.not_eq_true', wI_F, data_F, ino_F, vN_F, nmE_F, decide_eq_false_iff_not]; omega)) (by repeat (first | exact Sub.nil | refine Sub.cons rfl ?_))
  ·simp only [List.drop_succ_cons, List.drop_zero]
   refine tE ?_
   refine At.cond rfl (fun h4 => ?_) (fun h4 => ?_)
   ·try simp only [vN_T, vN_F, nmE_T, nmE_F, wI_T, wI_F, data_T, data_F, ino_T, ino_F, notT, notF, bneT, bneF, beqT, beqF, decT, decF] at h4
    refine tR (tA rfl rfl (tE (At.retC (At.blkR (At.thenR (At.thenR (At.blkR (At.thenR (At.ret1 (.inl rfl) rfl rfl rfl (fun w hw => ?_))))))))))
    exact ⟨retB (decide_eq_true (by unfold SlotWd; omega)).symm, hw.mod⟩
   ·try simp only [vN_T, vN_F, nmE_T, nmE_F, wI_T, wI_F, data_T, data_F, ino_T, ino_F, notT, notF, bneT, bneF, beqT, beqF, decT, decF] at h4
    refine At.skipC (At.blkN (At.thenN (At.region (tM rfl rfl ?_))))
    first | refine tV (Val.addI rfl rfl (by omega) (by omega)) rfl ?_ | refine tV (Val.bin rfl rfl rfl) rfl ?_
    refine tA rfl rfl (tE ?_)
    exact At.again (k + 1) ⟨by omega, by omega, fun h => by have h1 := h.1; have h2 := h.2; have h3 := hs.2.2; unfold SlotWd at *; omega⟩ (by omega) (Sub.cons rfl (Sub.cons (congrArg (fun z => some (Value.int IntKind.i64 z)) (by omega)) Sub.nil)) (List.Perm.refl _)
 ·try simp only [vN_T, vN_F, nmE_T, nmE_F, wI_T, wI_F, data_T, data_F, ino_T, ino_F, notT, notF, bneT, bneF, beqT, beqF, decT, decF] at h1
  obtain rfl : k = 257 := by omega
  refine At.exitC (At.thenX (At.thenX (At.blkX (At.thenN (tR (tA rfl rfl (tE (At.retC (At.ret1 (.inl rfl) rfl rfl rfl (fun w hw => ?_))))))))))
  exact ⟨retB (decide_eq_false (fun h => hs.2.2 ⟨h, by unfold SlotWd at h; omega⟩)).symm, hw.mod⟩
theorem goodUnR_p (v : Value) (L : List (Int × BitVec 64)) (w : World) (hv : RdP w v L) (hlen : L.length ≤ 140737488355328) :
    PureC Tryz.prog 62 [v] (.bool (decide (GoodUn L))) w := by
 refine enter0 Tryz.func62 rfl Tryz.ntmps62 rfl ?_
 simp only [envOf]
 refine tR (tA rfl rfl (tE (At.seq (tR (At.weaken [(0, _), (2, _)] (Sub.cons rfl (Sub.cons rfl Sub.nil)) ?_)))))
 refine At.boolMeet 8 13 (decide (L.length = 0 ∨ 8 < L.length)) ?_ ?_
 ·simp only [List.take_succ_cons, List.take_zero]
  refine tM rfl rfl (tV (Val.lenRd hv Tryz.underlying25 rfl) rfl (tV (Val.bin rfl rfl rfl) rfl (tM rfl rfl ?_)))
  refine At.split (t := 9) rfl (fun h1 => ?_) (fun h1 => ?_)
  ·try simp only [vN_T, vN_F, nmE_T, nmE_F, wI_T, wI_F, data_T, data_F, ino_T, ino_F, notT, notF, bneT, bneF, beqT, beqF, decT, decF] at h1
   refine At.no rfl rfl rfl rfl (At.no rfl rfl rfl rfl (At.no rfl rfl rfl rfl (tV (Val.pickT rfl rfl) rfl (At.nil ?_))))
   exact At.boolEnd rfl (by first | rfl | exact (decide_eq_true (by omega)).symm | exact (decide_eq_false (by omega)).symm | (apply Bool.eq_iff_iff.2; simp only [decide_eq_true_eq, beq_iff_eq, bne_iff_ne, ne_eq, wI_T, data_T, ino_T, vN_T, nmE_T, Bool.not_eq_true', wI_F, data_F, ino_F, vN_F, nmE_F, decide_eq_false_iff_not]; omega)) (by repeat (first | exact Sub.nil | refine Sub.cons rfl ?_))
  ·try simp only [vN_T, vN_F, nmE_T, nmE_F, wI_T, wI_F, data_T, data_F, ino_T, ino_F, notT, notF, bneT, bneF, beqT, beqF, decT, decF] at h1
   refine At.yes rfl rfl (tM rfl rfl (At.yes rfl rfl (tV (Val.lenRd hv Tryz.underlying25 rfl) rfl (At.yes rfl rfl (tV (Val.bin rfl rfl rfl) rfl (tV (Val.pickF rfl rfl) rfl (At.nil ?_)))))))
   exact At.boolEnd rfl (by first | rfl | exact (decide_eq_true (by omega)).symm | exact (decide_eq_false (by omega)).symm | (apply Bool.eq_iff_iff.2; simp only [decide_eq_true_eq, beq_iff_eq, bne_iff_ne, ne_eq, wI_T, data_T, ino_T, vN_T, nmE_T, Bool.not_eq_true', wI_F, data_F, ino_F, vN_F, nmE_F, decide_eq_false_iff_not]; omega)) (by repeat (first | exact Sub.nil | refine Sub.cons rfl ?_))
 ·simp only [List.drop_succ_cons, List.drop_zero]
  refine tE ?_
  refine At.cond rfl (fun h2 => ?_) (fun h2 => ?_)
  ·try simp only [vN_T, vN_F, nmE_T, nmE_F, wI_T, wI_F, data_T, data_F, ino_T, ino_F, notT, notF, bneT, bneF, beqT, beqF, decT, decF] at h2
   refine tR (tA rfl rfl (tE (At.retC (At.thenR (At.ret1 (.inl rfl) rfl rfl rfl (fun w hw => ?_))))))
   exact ⟨retB (decide_eq_false (fun g => by have h1 := g.1; have h2 := g.2.1; omega)).symm, hw.mod⟩
  ·try simp only [vN_T, vN_F, nmE_T, nmE_F, wI_T, wI_F, data_T, data_F, ino_T, ino_F, notT, notF, bneT, bneF, beqT, beqF, decT, decF] at h2
   refine At.skipC (At.thenN (At.seq (tR (tA rfl rfl (tE (At.block ?_))))))
   skip
   refine At.loop (σ := Nat) (fun k => k ≤ L.length ∧ ∀ j, j < k → OkAt L j) (fun k => [(0, v), (3, .int .i64 (k : Int))]) (fun k => []) (fun k => L.length - k) 0 ⟨Nat.zero_le _, fun j h => by omega⟩ (Sub.cons rfl (Sub.cons rfl Sub.nil)) (List.Perm.refl _) ?_
   intro k hs
   refine At.seq (tR (tM rfl rfl (tM rfl rfl (tV (Val.lenRd hv Tryz.underlying25 rfl) rfl (tV (Val.bin rfl rfl rfl) rfl (tE ?_))))))
   refine At.cond rfl (fun h3 => ?_) (fun h3 => ?_)
   ·try simp only [vN_T, vN_F, nmE_T, nmE_F, wI_T, wI_F, data_T, data_F, ino_T, ino_F, notT, notF, bneT, bneF, beqT, beqF, decT, decF] at h3
    have hk : k < L.length := by omega
    refine At.skipC (At.thenN (At.seq (At.block (tR (tM rfl rfl (tM rfl rfl (At.idxP hv Tryz.underlying25 Tryz.sizeOf45 rfl rfl (by omega) (by omega) rfl rfl (fun b4 o5 q6 hq7 hc8 hd9 => (tV (Val.field o5 rfl fo_45_0 rfl) rfl (tV (Val.loadOld Tryz.isAgg3 rfl hc8 (fun h => h)) rfl ?_))))))))))
    have hqk := hq7
    rw [Int.toNat_natCast] at hqk
    refine At.callP (fun w hw => slotWord_p q6.1 w) Tryz.call101 rfl rfl (tA rfl rfl (tE (At.seq (tR (tM rfl rfl (tV (Val.not rfl) rfl (tE ?_)))))))
    refine At.cond rfl (fun h10 => ?_) (fun h10 => ?_)
    ·try simp only [vN_T, vN_F, nmE_T, nmE_F, wI_T, wI_F, data_T, data_F, ino_T, ino_F, notT, notF, bneT, bneF, beqT, beqF, decT, decF] at h10
     have hno := h10
     refine tR (tA rfl rfl (tE (At.retC (At.thenR (At.blkR (At.thenR (At.thenR (At.blkR (At.thenR (At.ret1 (.inl rfl) rfl rfl rfl (fun w hw => ?_)))))))))))
     exact ⟨retB (decide_eq_false (good_no1 hqk hno)).symm, hw.mod⟩
    ·try simp only [vN_T, vN_F, nmE_T, nmE_F, wI_T, wI_F, data_T, data_F, ino_T, ino_F, notT, notF, bneT, bneF, beqT, beqF, decT, decF] at h10
     have hyes := h10
     refine At.skipC (At.thenN (tR (tA rfl rfl (tE (At.block ?_)))))
     skip
     refine At.loop (σ := Nat) (fun j => j ≤ k ∧ hasAt (L.take j) q6.1 = false) (fun j => [(0, v), (3, .int .i64 (k : Int)), (5, .int .i64 (j : Int))]) (fun j => []) (fun j => k - j) 0 ⟨Nat.zero_le _, rfl⟩ (Sub.cons rfl (Sub.cons rfl (Sub.cons rfl Sub.nil))) (List.Perm.refl _) ?_
     intro j hs'
     refine At.seq (tR (tM rfl rfl (tM rfl rfl (tV (Val.bin rfl rfl rfl) rfl (tE ?_)))))
     refine At.cond rfl (fun h11 => ?_) (fun h11 => ?_)
     ·try simp only [vN_T, vN_F, nmE_T, nmE_F, wI_T, wI_F, data_T, data_F, ino_T, ino_F, notT, notF, bneT, bneF, beqT, beqF, decT, decF] at h11
      have hj : j < k := by omega
      refine At.skipC (At.thenN (At.seq (At.block (At.seq (At.quiet rfl (by decide +kernel) (qM rfl rfl (qM rfl rfl (QAt.idxP hv Tryz.underlying25 Tryz.sizeOf45 rfl rfl (by omega) (by omega) rfl rfl (fun b12 o13 q14 hq15 hc16 hd17 => (qV (Val.field o13 rfl fo_45_0 rfl) rfl (qV (Val.loadOld Tryz.isAgg3 rfl hc16 (fun h => h)) rfl (qM rfl rfl (qM rfl rfl (QAt.idxP hv Tryz.underlying25 Tryz.sizeOf45 rfl rfl (by omega) (by omega) rfl rfl (fun b18 o19 q20 hq21 hc22 hd23 => (qV (Val.field o19 rfl fo_45_0 rfl) rfl (qV (Val.loadOld Tryz.isAgg3 rfl hc22 (fun h => h)) rfl (qV (Val.bin rfl rfl rfl) rfl (QAt.fin (At.thenN ?_))))))))))))))))))))
      refine At.cond rfl (fun h24 => ?_) (fun h24 => ?_)
      ·try simp only [vN_T, vN_F, nmE_T, nmE_F, wI_T, wI_F, data_T, data_F, ino_T, ino_F, notT, notF, bneT, bneF, beqT, beqF, decT, decF] at h24
       refine tR (tA rfl rfl (tE (At.retC (At.blkR (At.thenR (At.thenR (At.blkR (At.blkR (At.thenR (At.thenR (At.blkR (At.thenR (At.ret1 (.inl rfl) rfl rfl rfl (fun w hw => ?_))))))))))))))
       exact ⟨retB (decide_eq_false (good_no2 hqk (hasAt_hit (by have := hq15; rwa [Int.toNat_natCast] at this) hj (by rw [← pr_eq hq21 hqk]; assumption)))).symm, hw.mod⟩
      ·try simp only [vN_T, vN_F, nmE_T, nmE_F, wI_T, wI_F, data_T, data_F, ino_T, ino_F, notT, notF, bneT, bneF, beqT, beqF, decT, decF] at h24
       refine At.skipC (At.blkN (At.thenN (At.region (tM rfl rfl ?_))))
       first | refine tV (Val.addI rfl rfl (by omega) (by omega)) rfl ?_ | refine tV (Val.bin rfl rfl rfl) rfl ?_
       refine tA rfl rfl (tE ?_)
       exact At.again (j + 1) ⟨by omega, hasAt_step (by have := hq15; rwa [Int.toNat_natCast] at this) (by rw [← pr_eq hq21 hqk]; assumption) hs'.2⟩ (by omega) (Sub.cons rfl (Sub.cons rfl (Sub.cons (congrArg (fun z => some (Value.int IntKind.i64 z)) (by omega)) Sub.nil))) (List.Perm.refl _)
     ·try simp only [vN_T, vN_F, nmE_T, nmE_F, wI_T, wI_F, data_T, data_F, ino_T, ino_F, notT, notF, bneT, bneF, beqT, beqF, decT, decF] at h11
      obtain rfl : k = j := by omega
      refine At.exitC (At.thenX (At.thenX (At.blkX (At.blkN (At.thenN (At.region (tM rfl rfl ?_)))))))
      first | refine tV (Val.addI rfl rfl (by omega) (by omega)) rfl ?_ | refine tV (Val.bin rfl rfl rfl) rfl ?_
      refine tA rfl rfl (tE ?_)
      exact At.again (k + 1) ⟨by omega, fun i hi => by rcases Nat.lt_or_ge i k with h | h; exact hs.2 i h; obtain rfl : i = k := (by omega); exact okAt_of hqk hyes hs'.2⟩ (by omega) (Sub.cons rfl (Sub.cons (congrArg (fun z => some (Value.int IntKind.i64 z)) (by omega)) Sub.nil)) (List.Perm.refl _)
   ·try simp only [vN_T, vN_F, nmE_T, nmE_F, wI_T, wI_F, data_T, data_F, ino_T, ino_F, notT, notF, bneT, bneF, beqT, beqF, decT, decF] at h3
    obtain rfl : k = L.length := by omega
    refine At.exitC (At.thenX (At.thenX (At.blkX (At.thenN (tR (tA rfl rfl (tE (At.retC (At.ret1 (.inl rfl) rfl rfl rfl (fun w hw => ?_))))))))))
    exact ⟨retB (decide_eq_true ⟨by omega, by omega, hs.2⟩).symm, hw.mod⟩
end Go.Proofs.YtfchinibjhcejaaGreatDoor
namespace Go.Proofs.YtfchinibjhcejaaGreatDoor
open Go Go.Wk
theorem eyeNumber_p (b L o c at' n : Nat) (l : List UInt8) (w : World) (hh : Holds w b 145 (eyeC L o l.length c at')) (hb : Bytes w (some ⟨L, o, none⟩) l) (hne : L ≠ b) (hc : l.length ≤ c) (hm : l.length ≤ 140737488355328) (hn : at' + n ≤ l.length) (h8 : n ≤ 8) :
    Upd Tryz.prog 74 [.pointer (some ⟨b, 0, none⟩), .int .i64 (n : Int)] (blk b 145 (eyeC L o l.length c at')) (.int .u64 (num l at' n : Nat)) (blk b 145 (eyeC L o l.length c (at' + n))) w := by
 refine enter (feet [(blk b 145 (eyeC L o l.length c at'))]) [(blk b 145 (eyeC L o l.length c at'))] Tryz.func74 rfl Tryz.ntmps74 rfl (Rep.one hh) ?_
 have hS : ¬ feet [(blk b 145 (eyeC L o l.length c at'))] L := fun ⟨r, hr, hx⟩ => by rcases List.mem_singleton.1 hr with rfl; exact hne hx
 simp only [envOf]
 refine tR (tA rfl rfl (tE (tR (tA rfl rfl (tE (At.seq (tR (tM rfl rfl (tM rfl rfl (tE (At.block ?_)))))))))))
 skip
 refine At.loop (σ := Nat) (fun k => k ≤ n) (fun k => [(0, .pointer (some ⟨b, 0, none⟩)), (1, .int .i64 (n : Int)), (5, .int .u64 (num l at' k : Nat)), (7, .int .i64 (n : Int)), (8, .int .i64 (k : Int))]) (fun k => [blk b 145 (eyeC L o l.length c at')]) (fun k => n - k) 0 (Nat.zero_le _) (Sub.cons rfl (Sub.cons rfl (Sub.cons (congrArg (fun z => some (Value.int IntKind.u64 z)) (by rw [num_zero]; rfl)) (Sub.cons rfl (Sub.cons rfl Sub.nil))))) (List.Perm.refl _) ?_
 intro k hs
 refine tR (tV (Val.bin rfl rfl rfl) rfl (tE (At.seq ?_)))
 refine At.cond rfl (fun h1 => ?_) (fun h1 => ?_)
 ·have hk : k < n := by have := h1; simp at this; omega
  obtain ⟨u, hu⟩ : ∃ u, l[at' + k]? = some u := ⟨_, List.getElem?_eq_getElem (by omega)⟩
  obtain ⟨b', o', hbo, hcell⟩ := hb _ _ hu
  simp only [Option.some.injEq, Addr.mk.injEq] at hbo
  obtain ⟨rfl, rfl, _⟩ := hbo
  refine At.skipC (At.thenN (At.seq (At.block (tR (tM rfl rfl (tA rfl rfl (tE (At.quiet rfl (by decide +kernel) (qM rfl rfl (qM rfl rfl (qV (Val.nilCheck rfl) rfl (qV (Val.field 0 rfl fo_145_0 rfl) rfl (qV (Val.load (i := 0) Tryz.isAgg29 rfl rfl rfl) rfl (qM rfl rfl (qV (Val.nilCheck rfl) rfl (qV (Val.field 1 rfl fo_145_1 rfl) rfl (qV (Val.load (i := 0) Tryz.isAgg3 rfl rfl rfl) rfl (qM rfl rfl (qV (Val.bin rfl rfl rfl) rfl ?_)))))))))))))))))))
  rw [wrap_i64 (n := (at' : Int) + (k : Int)) (by omega) (by omega)]
  refine qV (Val.indexSl (o + (at' + k)) (by omega) Tryz.underlying29 Tryz.sizeOf5 rfl rfl (by omega) (by omega)) rfl (qV (Val.loadOld Tryz.isAgg5 rfl hcell hS) rfl (qV (Val.conv Tryz.underlying5 Tryz.underlying43 rfl) rfl ?_))
  rw [wrap_u64 (n := (u.toNat : Int)) (by omega) (by have := u.toNat_lt; omega)]
  refine qM rfl rfl (qV (Val.bin rfl rfl rfl) rfl ?_)
  rw [wrap_i64 (n := 8 * (k : Int)) (by omega) (by omega)]
  refine qV (Val.shl rfl rfl (by omega)) rfl (qV (Val.bin rfl rfl rfl) rfl ?_)
  rw [num_or hu (by omega)]
  refine qV (Val.assign rfl) rfl (QAt.fin (At.blkN (At.thenN (At.region (tV (Val.bin rfl rfl rfl) rfl (tM rfl rfl (tE ?_)))))))
  exact At.again (k + 1) (by omega) (by omega) (Sub.cons rfl (Sub.cons rfl (Sub.cons rfl (Sub.cons rfl (Sub.cons (congrArg (fun z => some (Value.int IntKind.i64 z)) (wrap_i64 (by omega) (by omega))) Sub.nil))))) (List.Perm.refl _)
 ·have hk : k = n := by have := h1; simp at this; omega
  refine At.exitC (At.thenX (At.thenX (At.blkX (At.thenN (tR (tM rfl rfl (tV (Val.nilCheck rfl) rfl (tV (Val.field 1 rfl fo_145_1 rfl) rfl (tV (Val.load (i := 0) Tryz.isAgg3 rfl rfl rfl) rfl (tM rfl rfl (tV (Val.bin rfl rfl rfl) rfl ?_)))))))))))
  rw [wrap_i64 (n := (at' : Int) + (n : Int)) (by omega) (by omega)]
  refine tV (Val.nilCheck rfl) rfl (tV (Val.field 1 rfl fo_145_1 rfl) rfl (At.store (i := 0) Tryz.sizeOf3 rfl rfl rfl rfl (by simp) ?_))
  simp only [sc0, scS]
  refine At.nil ?_
  rw [show ([Value.slice (some ⟨L, o, none⟩) l.length c, Value.int .i64 ((at' : Int) + (n : Int))] : List Value) = eyeC L o l.length c (at' + n) from by simp]
  refine At.thenN (tR (tM rfl rfl (tA rfl rfl (tE (At.retC (At.ret1 (.inl rfl) rfl rfl rfl (fun w hw => ?_)))))))
  exact ⟨by rw [hk], hw⟩
theorem eyeHalf_p (b L o c at' : Nat) (l : List UInt8) (w : World) (hh : Holds w b 145 (eyeC L o l.length c at')) (hb : Bytes w (some ⟨L, o, none⟩) l) (hne : L ≠ b) (hc : l.length ≤ c) (hm : l.length ≤ 140737488355328) (hn : at' + 4 ≤ l.length) :
    Upd Tryz.prog 106 [.pointer (some ⟨b, 0, none⟩)] (blk b 145 (eyeC L o l.length c at')) (.int .i64 (num l at' 4 : Nat)) (blk b 145 (eyeC L o l.length c (at' + 4))) w := by
 refine enter (feet [(blk b 145 (eyeC L o l.length c at'))]) [(blk b 145 (eyeC L o l.length c at'))] Tryz.func106 rfl Tryz.ntmps106 rfl (Rep.one hh) ?_
 simp only [envOf]
 refine tR (tA rfl rfl (tE (tR (tM rfl rfl ?_))))
 refine At.call1 0 rfl (fun w hw hr => eyeNumber_p b L o c at' 4 l w hr (fun k u hk => by obtain ⟨b', o', h1, h2⟩ := hb k u hk; refine ⟨b', o', h1, hw.oldCell h2 ?_⟩; rintro ⟨r, hr', hx⟩; rcases List.mem_singleton.1 hr' with rfl; simp only [Option.some.injEq, Addr.mk.injEq] at h1; exact hne (h1.1.trans hx)) hne hc hm hn (by decide)) Tryz.call74 rfl rfl ?_
 simp only [sc0, scS]
 refine tV (Val.conv Tryz.underlying43 Tryz.underlying3 rfl) rfl (tA rfl rfl (tE (At.retC (At.ret1 (.inl rfl) rfl rfl rfl (fun w hw => ?_)))))
 exact ⟨by rw [wrap_i64 (by omega) (by have := num_lt (l := l) at' 4; omega)], hw⟩
theorem eyeZeros_T (b L o c at' n : Nat) (l : List UInt8) (why : Int) (w : World) (hh : Holds w b 145 (eyeC L o l.length c at')) (hb : Bytes w (some ⟨L, o, none⟩) l) (hne : L ≠ b) (hc : l.length ≤ c) (hm : l.length ≤ 140737488355328) (hn : at' + n ≤ l.length) (hz : allZero ((l.drop at').take n)) :
    Upd Tryz.prog 107 [.pointer (some ⟨b, 0, none⟩), .int .i64 (n : Int), .int .i64 why] (blk b 145 (eyeC L o l.length c at')) (.tuple #[]) (blk b 145 (eyeC L o l.length c (at' + n))) w := by
 refine enter (feet [(blk b 145 (eyeC L o l.length c at'))]) [(blk b 145 (eyeC L o l.length c at'))] Tryz.func107 rfl Tryz.ntmps107 rfl (Rep.one hh) ?_
 have hS : ¬ feet [(blk b 145 (eyeC L o l.length c at'))] L := fun ⟨r, hr, hx⟩ => by rcases List.mem_singleton.1 hr with rfl; exact hne hx
 have hX : ((l.drop at').take n).length = n := by simp; omega
 have hbX := cut_bytes (n := n) hb hc hn
 simp only [envOf]
 refine At.seq (At.seq (At.quiet rfl (by decide +kernel) (qM rfl rfl (qV (Val.nilCheck rfl) rfl (qV (Val.field 0 rfl fo_145_0 rfl) rfl (qV (Val.load (i := 0) Tryz.isAgg29 rfl rfl rfl) rfl (qM rfl rfl (qV (Val.nilCheck rfl) rfl (qV (Val.field 1 rfl fo_145_1 rfl) rfl (qV (Val.load (i := 0) Tryz.isAgg3 rfl rfl rfl) rfl (qM rfl rfl (qV (Val.nilCheck rfl) rfl (qV (Val.field 1 rfl fo_145_1 rfl) rfl (qV (Val.load (i := 0) Tryz.isAgg3 rfl rfl rfl) rfl (qM rfl rfl (qV (Val.bin rfl rfl rfl) rfl ?_))))))))))))))))
 rw [wrap_i64 (n := (at' : Int) + (n : Int)) (by omega) (by omega)]
 refine qV (Val.cutSl at' (at' + n) (if c = at' then o else o + at' * 1) n (c - at') Tryz.underlying29 Tryz.sizeOf5 rfl ⟨_, _, rfl, by omega, by omega⟩ ⟨_, _, rfl, by omega, by omega⟩ (by omega) (by omega) rfl (by omega) rfl) rfl (qV (Val.len (bt := #[]) Tryz.underlying29 rfl) rfl (qM rfl rfl (QAt.fin (At.thenN (At.block ?_)))))
 skip
 refine At.loop (σ := Nat) (fun k => k ≤ n) (fun k => [(0, .pointer (some ⟨b, 0, none⟩)), (1, .int .i64 (n : Int)), (2, .int .i64 why), (22, .slice (some ⟨L, if c = at' then o else o + at' * 1, none⟩) n (c - at')), (23, .int .i64 (n : Int)), (24, .int .i64 (k : Int))]) (fun k => [blk b 145 (eyeC L o l.length c at')]) (fun k => n - k) 0 (Nat.zero_le _) (Sub.cons rfl (Sub.cons rfl (Sub.cons rfl (Sub.cons rfl (Sub.cons rfl (Sub.cons rfl Sub.nil)))))) (List.Perm.refl _) ?_
 intro k hs
 refine tR (tV (Val.bin rfl rfl rfl) rfl (tE (At.seq ?_)))
 refine At.cond rfl (fun h1 => ?_) (fun h1 => ?_)
 ·have hk : k < n := by have := h1; simp at this; omega
  obtain ⟨u, hu⟩ : ∃ u, ((l.drop at').take n)[k]? = some u := ⟨_, List.getElem?_eq_getElem (by omega)⟩
  obtain ⟨b', o', hbo, hcell⟩ := hbX _ _ hu
  simp only [Option.some.injEq, Addr.mk.injEq] at hbo
  obtain ⟨rfl, rfl, _⟩ := hbo
  refine At.skipC (At.thenN (At.seq (At.block (tR (tV (Val.indexSl ((if c = at' then o else o + at' * 1) + k) (by omega) Tryz.underlying29 Tryz.sizeOf5 rfl rfl (by omega) (by omega)) rfl (tV (Val.loadOld Tryz.isAgg5 rfl hcell hS) rfl (tA rfl rfl (tE (At.region (tM rfl rfl (tV (Val.bin rfl rfl rfl) rfl (tM rfl rfl ?_))))))))))))
  refine At.split (t := 29) rfl (fun h2 => ?_) (fun h2 => ?_)
  ·have hu0 : u = 0 := zero_byte (by simpa using h2)
   refine At.callP (fun w hw => must_T _ w) Tryz.call72 rfl rfl (At.nil (At.blkN (At.thenN (At.region (tV (Val.bin rfl rfl rfl) rfl (tM rfl rfl (tE ?_)))))))
   exact At.again (k + 1) (by omega) (by omega) (Sub.cons rfl (Sub.cons rfl (Sub.cons rfl (Sub.cons rfl (Sub.cons rfl (Sub.cons (congrArg (fun z => some (Value.int IntKind.i64 z)) (wrap_i64 (by omega) (by omega))) Sub.nil)))))) (List.Perm.refl _)
  ·rw [allZero_at hu hz] at h2; exact absurd h2 (by decide)
 ·have hk : k = n := by have := h1; simp at this; omega
  refine At.exitC (At.thenX (At.thenX (At.blkX (At.thenN (At.region (tM rfl rfl (tV (Val.nilCheck rfl) rfl (tV (Val.field 1 rfl fo_145_1 rfl) rfl (tV (Val.load (i := 0) Tryz.isAgg3 rfl rfl rfl) rfl (tM rfl rfl (tV (Val.bin rfl rfl rfl) rfl ?_)))))))))))
  rw [wrap_i64 (n := (at' : Int) + (n : Int)) (by omega) (by omega)]
  refine tV (Val.nilCheck rfl) rfl (tV (Val.field 1 rfl fo_145_1 rfl) rfl (At.store (i := 0) Tryz.sizeOf3 rfl rfl rfl rfl (by simp) ?_))
  simp only [sc0, scS]
  refine At.nil ?_
  rw [show ([Value.slice (some ⟨L, o, none⟩) l.length c, Value.int .i64 ((at' : Int) + (n : Int))] : List Value) = eyeC L o l.length c (at' + n) from by simp]
  refine At.ret0 (.inr rfl) rfl rfl  (fun w hw => ?_)
  exact ⟨rfl, hw⟩
theorem eyeZeros_F (b L o c at' n : Nat) (l : List UInt8) (why : Int) (w : World) (hh : Holds w b 145 (eyeC L o l.length c at')) (hb : Bytes w (some ⟨L, o, none⟩) l) (hne : L ≠ b) (hc : l.length ≤ c) (hm : l.length ≤ 140737488355328) (hn : at' + n ≤ l.length) (hz : ¬ allZero ((l.drop at').take n)) :
    Throws1 Tryz.prog 107 [.pointer (some ⟨b, 0, none⟩), .int .i64 (n : Int), .int .i64 why] (blk b 145 (eyeC L o l.length c at')) (brk 175 why) w := by
 refine enter (feet [(blk b 145 (eyeC L o l.length c at'))]) [(blk b 145 (eyeC L o l.length c at'))] Tryz.func107 rfl Tryz.ntmps107 rfl (Rep.one hh) ?_
 have hS : ¬ feet [(blk b 145 (eyeC L o l.length c at'))] L := fun ⟨r, hr, hx⟩ => by rcases List.mem_singleton.1 hr with rfl; exact hne hx
 have hX : ((l.drop at').take n).length = n := by simp; omega
 have hbX := cut_bytes (n := n) hb hc hn
 simp only [envOf]
 refine At.seq (At.seq (At.quiet rfl (by decide +kernel) (qM rfl rfl (qV (Val.nilCheck rfl) rfl (qV (Val.field 0 rfl fo_145_0 rfl) rfl (qV (Val.load (i := 0) Tryz.isAgg29 rfl rfl rfl) rfl (qM rfl rfl (qV (Val.nilCheck rfl) rfl (qV (Val.field 1 rfl fo_145_1 rfl) rfl (qV (Val.load (i := 0) Tryz.isAgg3 rfl rfl rfl) rfl (qM rfl rfl (qV (Val.nilCheck rfl) rfl (qV (Val.field 1 rfl fo_145_1 rfl) rfl (qV (Val.load (i := 0) Tryz.isAgg3 rfl rfl rfl) rfl (qM rfl rfl (qV (Val.bin rfl rfl rfl) rfl ?_))))))))))))))))
 rw [wrap_i64 (n := (at' : Int) + (n : Int)) (by omega) (by omega)]
 refine qV (Val.cutSl at' (at' + n) (if c = at' then o else o + at' * 1) n (c - at') Tryz.underlying29 Tryz.sizeOf5 rfl ⟨_, _, rfl, by omega, by omega⟩ ⟨_, _, rfl, by omega, by omega⟩ (by omega) (by omega) rfl (by omega) rfl) rfl (qV (Val.len (bt := #[]) Tryz.underlying29 rfl) rfl (qM rfl rfl (QAt.fin (At.thenN (At.block ?_)))))
 skip
 refine At.loop (σ := Nat) (fun k => k ≤ n ∧ allZero (((l.drop at').take n).take k)) (fun k => [(0, .pointer (some ⟨b, 0, none⟩)), (1, .int .i64 (n : Int)), (2, .int .i64 why), (22, .slice (some ⟨L, if c = at' then o else o + at' * 1, none⟩) n (c - at')), (23, .int .i64 (n : Int)), (24, .int .i64 (k : Int))]) (fun k => [blk b 145 (eyeC L o l.length c at')]) (fun k => n - k) 0 ⟨Nat.zero_le _, by simp [allZero]⟩ (Sub.cons rfl (Sub.cons rfl (Sub.cons rfl (Sub.cons rfl (Sub.cons rfl (Sub.cons rfl Sub.nil)))))) (List.Perm.refl _) ?_
 intro k hs
 refine tR (tV (Val.bin rfl rfl rfl) rfl (tE (At.seq ?_)))
 refine At.cond rfl (fun h1 => ?_) (fun h1 => ?_)
 ·have hk : k < n := by have := h1; simp at this; omega
  obtain ⟨u, hu⟩ : ∃ u, ((l.drop at').take n)[k]? = some u := ⟨_, List.getElem?_eq_getElem (by omega)⟩
  obtain ⟨b', o', hbo, hcell⟩ := hbX _ _ hu
  simp only [Option.some.injEq, Addr.mk.injEq] at hbo
  obtain ⟨rfl, rfl, _⟩ := hbo
  refine At.skipC (At.thenN (At.seq (At.block (tR (tV (Val.indexSl ((if c = at' then o else o + at' * 1) + k) (by omega) Tryz.underlying29 Tryz.sizeOf5 rfl rfl (by omega) (by omega)) rfl (tV (Val.loadOld Tryz.isAgg5 rfl hcell hS) rfl (tA rfl rfl (tE (At.region (tM rfl rfl (tV (Val.bin rfl rfl rfl) rfl (tM rfl rfl ?_))))))))))))
  refine At.split (t := 29) rfl (fun h2 => ?_) (fun h2 => ?_)
  ·have hu0 : u = 0 := zero_byte (by simpa using h2)
   refine At.callP (fun w hw => must_T _ w) Tryz.call72 rfl rfl (At.nil (At.blkN (At.thenN (At.region (tV (Val.bin rfl rfl rfl) rfl (tM rfl rfl (tE ?_)))))))
   exact At.again (k + 1) ⟨by omega, by rw [List.take_add_one, hu]; intro x hx; rcases List.mem_append.1 hx with hx | hx; exact hs.2 x hx; simp at hx; rw [hx, hu0]⟩ (by omega) (Sub.cons rfl (Sub.cons rfl (Sub.cons rfl (Sub.cons rfl (Sub.cons rfl (Sub.cons (congrArg (fun z => some (Value.int IntKind.i64 z)) (wrap_i64 (by omega) (by omega))) Sub.nil)))))) (List.Perm.refl _)
  ·refine At.callT0 (fun w hw => must_F _ w) Tryz.call72 rfl (At.blkE (At.thenE (At.thenE (At.blkE (At.thenE (At.fail rfl (fun w hw => ?_)))))))
   exact ⟨rfl, hw.drop (List.nil_sublist _)⟩
 ·have hk : k = n := by have := h1; simp at this; omega
  exact absurd (by have h0 := hs.2; rw [hk, List.take_of_length_le (by rw [hX]; exact Nat.le_refl _)] at h0; exact h0) hz
theorem eyeText_T (b L o c at' : Nat) (l : List UInt8) (s : ByteArray) (why : Int) (w : World) (hh : Holds w b 145 (eyeC L o l.length c at')) (hb : Bytes w (some ⟨L, o, none⟩) l) (hne : L ≠ b) (hc : l.length ≤ c) (hm : l.length ≤ 140737488355328) (hn : at' + s.data.toList.length ≤ l.length) (ht : ((l.drop at').take s.data.toList.length) = s.data.toList) :
    Upd Tryz.prog 105 [.pointer (some ⟨b, 0, none⟩), .string s, .int .i64 why] (blk b 145 (eyeC L o l.length c at')) (.tuple #[]) (blk b 145 (eyeC L o l.length c (at' + s.data.toList.length))) w := by
 refine enter (feet [(blk b 145 (eyeC L o l.length c at'))]) [(blk b 145 (eyeC L o l.length c at'))] Tryz.func105 rfl Tryz.ntmps105 rfl (Rep.one hh) ?_
 have hS : ¬ feet [(blk b 145 (eyeC L o l.length c at'))] L := fun ⟨r, hr, hx⟩ => by rcases List.mem_singleton.1 hr with rfl; exact hne hx
 have hs : s.size = s.data.toList.length := Array.length_toList.symm
 have hX : ((l.drop at').take s.data.toList.length).length = s.data.toList.length := by simp; omega
 have hbX := cut_bytes (n := s.data.toList.length) hb hc hn
 simp only [envOf]
 refine At.seq (At.tail 20 rfl (by decide +kernel) ?_)
 simp only [List.take_succ_cons, List.take_zero, List.drop_succ_cons, List.drop_zero]
 refine qM rfl rfl (qV (Val.nilCheck rfl) rfl (qV (Val.field 0 rfl fo_145_0 rfl) rfl (qV (Val.load (i := 0) Tryz.isAgg29 rfl rfl rfl) rfl (qM rfl rfl (qV (Val.nilCheck rfl) rfl (qV (Val.field 1 rfl fo_145_1 rfl) rfl (qV (Val.load (i := 0) Tryz.isAgg3 rfl rfl rfl) rfl (qM rfl rfl (qV (Val.nilCheck rfl) rfl (qV (Val.field 1 rfl fo_145_1 rfl) rfl (qV (Val.load (i := 0) Tryz.isAgg3 rfl rfl rfl) rfl (qM rfl rfl (qV (Val.lenStr Tryz.underlying9 rfl) rfl (qV (Val.bin rfl rfl rfl) rfl ?_))))))))))))))
 rw [wrap_i64 (n := (at' : Int) + (s.size : Int)) (by omega) (by omega)]
 refine qV (Val.cutSl at' (at' + s.size) (if c = at' then o else o + at' * 1) s.size (c - at') Tryz.underlying29 Tryz.sizeOf5 rfl ⟨_, _, rfl, by omega, by omega⟩ ⟨_, _, rfl, by omega, by omega⟩ (by omega) (by omega) rfl (by omega) rfl) rfl ?_
 refine qV (Val.strOf (l := ((l.drop at').take s.data.toList.length)) Tryz.underlying29 Tryz.underlying5 Tryz.underlying9 rfl (by rw [hX, hs]) (fun w' hw' k u hk => by obtain ⟨b', o', h1, h2⟩ := hbX k u hk; refine ⟨b', o', h1, hw'.oldCell h2 ?_⟩; simp only [Option.some.injEq, Addr.mk.injEq] at h1; rw [← h1.1]; exact hS)) rfl ?_
 refine qM rfl rfl (qV (Val.seq_ rfl rfl) rfl ?_)
 rw [show (ByteArray.toList ⟨((l.drop at').take s.data.toList.length).toArray⟩ == s.toList) = true from by rw [ByteArray.toList_eq, ByteArray.toList_eq]; simpa using ht]
 refine qM rfl rfl (QAt.fin (At.callP (fun w hw => must_T _ w) Tryz.call72 rfl rfl (tE (At.region (tM rfl rfl (tV (Val.nilCheck rfl) rfl (tV (Val.field 1 rfl fo_145_1 rfl) rfl (tV (Val.load (i := 0) Tryz.isAgg3 rfl rfl rfl) rfl (tM rfl rfl (tV (Val.lenStr Tryz.underlying9 rfl) rfl (tV (Val.bin rfl rfl rfl) rfl ?_)))))))))))
 rw [wrap_i64 (n := (at' : Int) + (s.size : Int)) (by omega) (by omega)]
 refine tV (Val.nilCheck rfl) rfl (tV (Val.field 1 rfl fo_145_1 rfl) rfl (At.store (i := 0) Tryz.sizeOf3 rfl rfl rfl rfl (by simp) ?_))
 simp only [sc0, scS]
 refine At.nil ?_
 rw [show ([Value.slice (some ⟨L, o, none⟩) l.length c, Value.int .i64 ((at' : Int) + (s.size : Int))] : List Value) = eyeC L o l.length c (at' + s.data.toList.length) from by rw [hs, ← Int.natCast_add]]
 refine At.ret0 (.inr rfl) rfl rfl  (fun w hw => ?_)
 exact ⟨rfl, hw⟩
theorem eyeText_F (b L o c at' : Nat) (l : List UInt8) (s : ByteArray) (why : Int) (w : World) (hh : Holds w b 145 (eyeC L o l.length c at')) (hb : Bytes w (some ⟨L, o, none⟩) l) (hne : L ≠ b) (hc : l.length ≤ c) (hm : l.length ≤ 140737488355328) (hn : at' + s.data.toList.length ≤ l.length) (ht : ¬ ((l.drop at').take s.data.toList.length) = s.data.toList) :
    Throws1 Tryz.prog 105 [.pointer (some ⟨b, 0, none⟩), .string s, .int .i64 why] (blk b 145 (eyeC L o l.length c at')) (brk 175 why) w := by
 refine enter (feet [(blk b 145 (eyeC L o l.length c at'))]) [(blk b 145 (eyeC L o l.length c at'))] Tryz.func105 rfl Tryz.ntmps105 rfl (Rep.one hh) ?_
 have hS : ¬ feet [(blk b 145 (eyeC L o l.length c at'))] L := fun ⟨r, hr, hx⟩ => by rcases List.mem_singleton.1 hr with rfl; exact hne hx
 have hs : s.size = s.data.toList.length := Array.length_toList.symm
 have hX : ((l.drop at').take s.data.toList.length).length = s.data.toList.length := by simp; omega
 have hbX := cut_bytes (n := s.data.toList.length) hb hc hn
 simp only [envOf]
 refine At.seq (At.tail 20 rfl (by decide +kernel) ?_)
 simp only [List.take_succ_cons, List.take_zero, List.drop_succ_cons, List.drop_zero]
 refine qM rfl rfl (qV (Val.nilCheck rfl) rfl (qV (Val.field 0 rfl fo_145_0 rfl) rfl (qV (Val.load (i := 0) Tryz.isAgg29 rfl rfl rfl) rfl (qM rfl rfl (qV (Val.nilCheck rfl) rfl (qV (Val.field 1 rfl fo_145_1 rfl) rfl (qV (Val.load (i := 0) Tryz.isAgg3 rfl rfl rfl) rfl (qM rfl rfl (qV (Val.nilCheck rfl) rfl (qV (Val.field 1 rfl fo_145_1 rfl) rfl (qV (Val.load (i := 0) Tryz.isAgg3 rfl rfl rfl) rfl (qM rfl rfl (qV (Val.lenStr Tryz.underlying9 rfl) rfl (qV (Val.bin rfl rfl rfl) rfl ?_))))))))))))))
 rw [wrap_i64 (n := (at' : Int) + (s.size : Int)) (by omega) (by omega)]
 refine qV (Val.cutSl at' (at' + s.size) (if c = at' then o else o + at' * 1) s.size (c - at') Tryz.underlying29 Tryz.sizeOf5 rfl ⟨_, _, rfl, by omega, by omega⟩ ⟨_, _, rfl, by omega, by omega⟩ (by omega) (by omega) rfl (by omega) rfl) rfl ?_
 refine qV (Val.strOf (l := ((l.drop at').take s.data.toList.length)) Tryz.underlying29 Tryz.underlying5 Tryz.underlying9 rfl (by rw [hX, hs]) (fun w' hw' k u hk => by obtain ⟨b', o', h1, h2⟩ := hbX k u hk; refine ⟨b', o', h1, hw'.oldCell h2 ?_⟩; simp only [Option.some.injEq, Addr.mk.injEq] at h1; rw [← h1.1]; exact hS)) rfl ?_
 refine qM rfl rfl (qV (Val.seq_ rfl rfl) rfl ?_)
 rw [show (ByteArray.toList ⟨((l.drop at').take s.data.toList.length).toArray⟩ == s.toList) = false from by rw [ByteArray.toList_eq, ByteArray.toList_eq]; simpa using ht]
 refine qM rfl rfl (QAt.fin (At.callT0 (fun w hw => must_F _ w) Tryz.call72 rfl (At.thenE (At.fail rfl (fun w hw => ?_)))))
 exact ⟨rfl, hw.drop (List.nil_sublist _)⟩
end Go.Proofs.YtfchinibjhcejaaGreatDoor
namespace Go.Proofs.YtfchinibjhcejaaGreatDoor
open Go Go.Wk
end Go.Proofs.YtfchinibjhcejaaGreatDoor
namespace Go.Proofs.YtfchinibjhcejaaGreatDoor
open Go Go.Wk
theorem packUnR_n (v : Value) (L : List (Int × BitVec 64)) (w : World) (hv : RdP w v L) (hlen : L.length ≤ 140737488355328) :
    NewRowT Tryz.prog 35 [v] (fun v => .tuple #[v, .int .i64 (packE L)]) 5 1 (packB L).length ((packB L).map bv) w := by
 refine enter0 Tryz.func35 rfl Tryz.ntmps35 rfl ?_
 simp only [envOf]
 refine tR (tA rfl rfl (tA rfl rfl (tE (tR (tM rfl rfl (At.callP (fun w hw => goodUnR_p v L w (hv.mod hw.mod) hlen) Tryz.call62 rfl rfl (tA rfl rfl (tE (At.seq (tR (tM rfl rfl (tV (Val.not rfl) rfl (tE ?_)))))))))))))
 refine At.cond rfl (fun h1 => ?_) (fun h1 => ?_)
 ·try simp only [vN_T, vN_F, nmE_T, nmE_F, wI_T, wI_F, data_T, data_F, ino_T, ino_F, notT, notF, bneT, bneF, beqT, beqF, decT, decF] at h1
  have hg : ¬ GoodUn L := by simpa using h1
  refine tR (tA rfl rfl (tA rfl rfl (At.nil (At.rowNilB 5 (At.thenN (At.retC (At.thenR (At.ret2 (.inl rfl) rfl rfl rfl rfl (fun w hw => ?_)))))))))
  exact ⟨_, by rw [packE_F hg], by rw [packB_F hg]; exact (hw.drop (List.singleton_sublist.2 (List.mem_of_getElem? (i := 0) rfl))).f0⟩
 ·try simp only [vN_T, vN_F, nmE_T, nmE_F, wI_T, wI_F, data_T, data_F, ino_T, ino_F, notT, notF, bneT, bneF, beqT, beqF, decT, decF] at h1
  have hg : GoodUn L := by simpa using h1
  have hL8 : L.length ≤ 8 := hg.2.1
  refine At.skipC (At.thenN (tR (tA rfl rfl (At.nil (At.rowNilB 5 (At.thenN (At.seq (tR (tA rfl rfl (tE (At.block ?_)))))))))))
  skip
  refine At.loop (σ := Nat × Value) (fun s => s.1 ≤ L.length) (fun s => [(0, v), (5, s.2), (6, .int .i64 (s.1 : Int))]) (fun s => [brow 5 s.2 (recB (L.take s.1))]) (fun s => L.length - s.1) (0, .slice none 0 0) (Nat.zero_le _) (Sub.cons rfl (Sub.cons rfl (Sub.cons rfl Sub.nil))) (List.Perm.refl _) ?_
  intro s hs
  obtain ⟨k, vk⟩ := s
  dsimp only at hs ⊢
  refine At.seq (tR (tM rfl rfl (tM rfl rfl (tV (Val.lenRd hv Tryz.underlying25 rfl) rfl (tV (Val.bin rfl rfl rfl) rfl (tE ?_))))))
  refine At.cond rfl (fun h2 => ?_) (fun h2 => ?_)
  ·try simp only [vN_T, vN_F, nmE_T, nmE_F, wI_T, wI_F, data_T, data_F, ino_T, ino_F, notT, notF, bneT, bneF, beqT, beqF, decT, decF] at h2
   have hk : k < L.length := by omega
   refine At.skipC (At.thenN (At.seq (At.block (tR (tM rfl rfl (tM rfl rfl (tM rfl rfl (At.idxP hv Tryz.underlying25 Tryz.sizeOf45 rfl rfl (by omega) (by omega) rfl rfl (fun b3 o4 q5 hq6 hc7 hd8 => (tV (Val.field o4 rfl fo_45_0 rfl) rfl (tV (Val.loadOld Tryz.isAgg3 rfl hc7 (fun h => h)) rfl (tV (Val.conv Tryz.underlying3 Tryz.underlying43 rfl) rfl ?_))))))))))))
   rw [wrap_u64_int q5.1]
   refine At.callR 0 rfl (fun w hw hr => rlay_p _ (recB (L.take k)) ((BitVec.ofInt 64 q5.1).toNat) 8 w hr (by have := BitVec.isLt ((BitVec.ofInt 64 q5.1)); omega) (by decide) (by rw [recB_length, List.length_take]; omega)) Tryz.call63 rfl rfl (fun v9 => ?_)
   simp only [sc0, scS]
   refine tA rfl rfl (tE (At.region (tM rfl rfl (tM rfl rfl (tM rfl rfl (At.idxP hv Tryz.underlying25 Tryz.sizeOf45 rfl rfl (by omega) (by omega) rfl rfl (fun b10 o11 q12 hq13 hc14 hd15 => (tV (Val.field (o11 + 1) rfl fo_45_1 rfl) rfl (tV (Val.loadOld Tryz.isAgg43 rfl hd15 (fun h => h)) rfl ?_)))))))))
   rw [pr_eq hq13 ((by have := hq6; rwa [Int.toNat_natCast] at this))]
   refine At.callR 0 rfl (fun w hw hr => rlay_p _ ((recB (L.take k)) ++ le 8 ((BitVec.ofInt 64 q5.1).toNat)) ((q5.2).toNat) 8 w hr (by have := BitVec.isLt ((q5.2)); omega) (by decide) (by rw [List.length_append, le_length, recB_length, List.length_take]; omega)) Tryz.call63 rfl rfl (fun v16 => ?_)
   simp only [sc0, scS]
   refine tA rfl rfl (At.nil (At.blkN (At.thenN (At.region (tM rfl rfl ?_)))))
   first | refine tV (Val.addI rfl rfl (by omega) (by omega)) rfl ?_ | refine tV (Val.bin rfl rfl rfl) rfl ?_
   refine tA rfl rfl (tE ?_)
   exact At.again (k + 1, v16) (show k + 1 ≤ _ by omega) (by dsimp only; omega) (Sub.cons rfl (Sub.cons rfl (Sub.cons (congrArg (fun z => some (Value.int IntKind.i64 z)) (by omega)) Sub.nil))) (by rw [List.take_succ_of_get (by have := hq6; rwa [Int.toNat_natCast] at this), recB_snoc])
  ·try simp only [vN_T, vN_F, nmE_T, nmE_F, wI_T, wI_F, data_T, data_F, ino_T, ino_F, notT, notF, bneT, bneF, beqT, beqF, decT, decF] at h2
   obtain rfl : k = L.length := by omega
   rw [List.take_length]
   refine At.exitC (At.thenX (At.thenX (At.blkX (At.thenN (tR (tM rfl rfl ?_))))))
   refine At.callP (fun w hw => rsumRd_p _ (recB L) w (row_rd (hw.row (i := 0) rfl) (by decide)) (by rw [recB_length]; omega)) Tryz.call64 rfl rfl (tA rfl rfl (tE (tR (tA rfl rfl (At.nil (At.rowNilB 5 (At.thenN (tR (tM rfl rfl (tV (Val.lenRd hv Tryz.underlying25 rfl) rfl (tV (Val.conv Tryz.underlying3 Tryz.underlying106 rfl) rfl ?_)))))))))))
   rw [wrap_u32_int (L.length : Int)]
   refine At.callP (fun w hw => sealR_p 512 (BitVec.ofInt 32 (L.length : Int)) w) Tryz.call65 rfl rfl (tA rfl rfl (tE (tR (tM rfl rfl (tM rfl rfl ?_)))))
   refine At.callR 0 rfl (fun w hw hr => rlay_p _ ([] : List UInt8) ((sealW (BitVec.ofInt 64 512) (BitVec.ofInt 32 (L.length : Int))).toNat) 8 w hr (by have := BitVec.isLt ((sealW (BitVec.ofInt 64 512) (BitVec.ofInt 32 (L.length : Int)))); omega) (by decide) (by decide)) Tryz.call63 rfl rfl (fun v17 => ?_)
   simp only [sc0, scS]
   refine tA rfl rfl (tE (tR (tM rfl rfl (At.callP (fun w hw => sealR_p 520 (sumOn 0 (recB L)) w) Tryz.call65 rfl rfl (tA rfl rfl (tE (tR (tM rfl rfl (tM rfl rfl ?_)))))))))
   refine At.callR 0 rfl (fun w hw hr => rlay_p _ (([] : List UInt8) ++ le 8 ((sealW (BitVec.ofInt 64 512) (BitVec.ofInt 32 (L.length : Int))).toNat)) ((sealW (BitVec.ofInt 64 520) (sumOn 0 (recB L))).toNat) 8 w hr (by have := BitVec.isLt ((sealW (BitVec.ofInt 64 520) (sumOn 0 (recB L)))); omega) (by decide) (by rw [List.length_append, le_length]; decide)) Tryz.call63 rfl rfl (fun v18 => ?_)
   simp only [sc0, scS]
   refine tA rfl rfl (At.nil ?_)
   rw [show (([] : List UInt8) ++ le 8 ((sealW (BitVec.ofInt 64 512) (BitVec.ofInt 32 (L.length : Int))).toNat) ++ le 8 ((sealW (BitVec.ofInt 64 520) (sumOn 0 (recB L))).toNat)) = (headB (L.length : Int) (sumOn 0 (recB L))) from rfl]
   refine At.thenN (tR (tM rfl rfl ?_))
   refine At.callR 0 rfl (fun w hw hr => filled_p _ (headB (L.length : Int) (sumOn 0 (recB L))) 64 w hr (by rw [headB_length]; decide) (by decide)) Tryz.call66 rfl rfl (fun v19 => ?_)
   simp only [sc0, scS]
   refine tA rfl rfl (At.nil ?_)
   rw [show 64 - (headB (L.length : Int) (sumOn 0 (recB L))).length = 48 from by rw [headB_length]]
   refine At.thenN (At.seq (At.seq ?_))
   have hrl := recB_length L
   refine At.region (tA rfl rfl (tE (At.block ?_)))
   skip
   refine At.loop (σ := Nat × Value) (fun s => s.1 ≤ (recB L).length) (fun s => [(5, vk), (8, s.2), (11, .int .i64 (s.1 : Int))]) (fun s => [brow 5 s.2 ((headB (L.length : Int) (sumOn 0 (recB L))) ++ zs 48 ++ (recB L).take s.1), brow 5 vk (recB L)]) (fun s => (recB L).length - s.1) (0, v19) (Nat.zero_le _) (Sub.cons rfl (Sub.cons rfl (Sub.cons rfl Sub.nil))) (by rw [List.take_zero, List.append_nil]) ?_
   intro s hs
   obtain ⟨k, vm⟩ := s
   dsimp only at hs ⊢
   refine At.seq (tR (tM rfl rfl (tM rfl rfl (tV (Val.lenRow (i := 1) Tryz.underlying29 rfl rfl) rfl (tV (Val.bin rfl rfl rfl) rfl (tE ?_))))))
   refine At.cond rfl (fun h20 => ?_) (fun h20 => ?_)
   ·try simp only [vN_T, vN_F, nmE_T, nmE_F, wI_T, wI_F, data_T, data_F, ino_T, ino_F, notT, notF, bneT, bneF, beqT, beqF, decT, decF] at h20
    have hk : k < (recB L).length := by omega
    refine At.skipC (At.thenN (At.seq (At.block (At.region (tM rfl rfl (tM rfl rfl (tM rfl rfl (At.idxRowB (i := 1) rfl Tryz.underlying29 Tryz.sizeOf5 rfl rfl (by omega) (by omega) rfl rfl (fun q21 hq22 hl23 => (tV (Val.loadRowB (i := 1) Tryz.isAgg5 rfl rfl hq22) rfl (At.buildSl (fun a ha => by simp only [List.map_toArray, List.map_cons, List.map_nil, ha.eval (x := (.tmp 63)) rfl]; try rfl) (bs_29_1 _ ) rfl (fun b24 => ?_))))))))))))
    refine At.appendB1 (i := 1) (j := 0) (by_ := 1) Tryz.underlying29 info_5 rfl rfl rfl rfl rfl rfl rfl rfl (by rw [List.length_append, List.length_append, headB_length, zs_length, List.length_take]; omega) (by rw [List.length_append, List.length_append, headB_length, zs_length, List.length_take]; omega) rfl (fun v25 => ?_)
    simp only [sc0, scS]
    refine At.drop 0 ?_
    simp only [ec0, ecS]
    refine tA rfl rfl (At.nil (At.blkN (At.thenN (At.region (tM rfl rfl ?_)))))
    first | refine tV (Val.addI rfl rfl (by omega) (by omega)) rfl ?_ | refine tV (Val.bin rfl rfl rfl) rfl ?_
    refine tA rfl rfl (tE ?_)
    exact At.again (k + 1, v25) (show k + 1 ≤ _ by omega) (by dsimp only; omega) (Sub.cons rfl (Sub.cons rfl (Sub.cons (congrArg (fun z => some (Value.int IntKind.i64 z)) (by omega)) Sub.nil))) (by rw [List.take_succ_of_get (by have := hq22; rwa [Int.toNat_natCast] at this), ← List.append_assoc])
   ·try simp only [vN_T, vN_F, nmE_T, nmE_F, wI_T, wI_F, data_T, data_F, ino_T, ino_F, notT, notF, bneT, bneF, beqT, beqF, decT, decF] at h20
    obtain rfl : k = (recB L).length := by omega
    rw [List.take_length]
    refine At.exitC (At.thenX (At.thenX (At.blkX (At.thenN (tR (tM rfl rfl (tA rfl rfl (tA rfl rfl (tE (At.retC (At.ret2 (.inl rfl) rfl rfl rfl rfl (fun w hw => ?_))))))))))))
    exact ⟨_, by rw [packE_T hg], by rw [packB_T hg]; exact (hw.drop (List.singleton_sublist.2 (List.mem_of_getElem? (i := 0) rfl))).f0⟩
end Go.Proofs.YtfchinibjhcejaaGreatDoor
