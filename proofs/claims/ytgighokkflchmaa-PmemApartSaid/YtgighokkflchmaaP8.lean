/- What is picked of a word in doubt. -/
import Derived.Test.YtgighokkflchmaaP7
import Derived.Test.YtgighokkflchmaaDg
set_option linter.unusedVariables false
set_option linter.unusedSimpArgs false
namespace Go.Proofs.Ytgighokkflchmaa
open Go Go.Wk

def pickC (cs : List Int) (K : Nat) (w : Wd) : BitVec 64 :=
  let n : Int := (w.news.length : Int) + 1
  let c : Int := match cs[K]? with | some c => (if c.tmod n < 0 then c.tmod n + n else c.tmod n) | none => 0
  if c = 0 then w.old else (w.news[(c - 1).toNat]?).getD w.old
/-- The words, those in doubt as they are picked. -/
def pickK (ws : List Wd) (pk : Nat → Nat → BitVec 64) : Nat → List (BitVec 64)
  | 0 => olds ws
  | K + 1 => match (dk ws)[K]? with | some k => (pickK ws pk K).set k (pk K k) | none => pickK ws pk K
def picked (ws : List Wd) (pk : Nat → Nat → BitVec 64) : List (BitVec 64) := pickK ws pk (dk ws).length
theorem pickK_length (ws : List Wd) (pk : Nat → Nat → BitVec 64) : ∀ K, (pickK ws pk K).length = ws.length
  | 0 => olds_length ws
  | K + 1 => by unfold pickK; split <;> simp [pickK_length ws pk K]
theorem pickK_succ {ws : List Wd} {pk : Nat → Nat → BitVec 64} {K k : Nat} (h : (dk ws)[K]? = some k) : pickK ws pk (K + 1) = (pickK ws pk K).set k (pk K k) := by
  conv => lhs; unfold pickK
  rw [h]
def pkC (ws : List Wd) (cs : List Int) (K k : Nat) : BitVec 64 := match ws[k]? with | some w => pickC cs K w | none => 0
def pkV (ws : List Wd) (K k : Nat) : BitVec 64 := match ws[k]? with | some w => nowW w | none => 0
theorem pkC_at {ws : List Wd} {cs : List Int} {K k : Nat} {w : Wd} (h : ws[k]? = some w) : pkC ws cs K k = pickC cs K w := by unfold pkC; rw [h]
theorem pkV_at {ws : List Wd} {K k : Nat} {w : Wd} (h : ws[k]? = some w) : pkV ws K k = nowW w := by unfold pkV; rw [h]
theorem pick_old {cs : List Int} {K : Nat} {w : Wd} {c : Int} (hc : c = 0) (h : c = (match cs[K]? with | some c => (if c.tmod ((w.news.length : Int) + 1) < 0 then c.tmod ((w.news.length : Int) + 1) + ((w.news.length : Int) + 1) else c.tmod ((w.news.length : Int) + 1)) | none => 0)) : pickC cs K w = w.old := by
  unfold pickC; simp only; rw [← h, if_pos hc]
theorem pick_new {cs : List Int} {K : Nat} {w : Wd} {c : Int} {z : BitVec 64} (hc : c ≠ 0) (h : c = (match cs[K]? with | some c => (if c.tmod ((w.news.length : Int) + 1) < 0 then c.tmod ((w.news.length : Int) + 1) + ((w.news.length : Int) + 1) else c.tmod ((w.news.length : Int) + 1)) | none => 0)) (hz : w.news[(c - 1).toNat]? = some z) : pickC cs K w = z := by
  unfold pickC; simp only; rw [← h, if_neg hc, hz]; rfl


theorem pick_bd {cs : List Int} {K : Nat} {n c : Int} (hn : 0 < n) (hs : c = (match cs[K]? with | some c => c.tmod n | none => 0)) : -n < c ∧ c < n := by
  cases hq : cs[K]? with
  | none => rw [hq] at hs; simp only at hs; omega
  | some q =>
    rw [hq] at hs; simp only at hs
    rw [hs]
    exact ⟨Int.lt_tmod_of_pos q hn, Int.tmod_lt_of_pos q hn⟩
theorem pick_meet {cs : List Int} {K : Nat} {n c e : Int} (hs : c = (match cs[K]? with | some c => c.tmod n | none => 0)) (he : (c < 0 ∧ e = c + n) ∨ (0 ≤ c ∧ e = c)) (hn : 0 < n) (h1 : 0 ≤ e) (h2 : e < n) :
    e = (match cs[K]? with | some c => (if c.tmod n < 0 then c.tmod n + n else c.tmod n) | none => 0) ∧ 0 ≤ e ∧ e < n := by
  refine ⟨?_, h1, h2⟩
  cases hq : cs[K]? with
  | none => rw [hq] at hs; simp only at hs ⊢; omega
  | some q =>
    rw [hq] at hs; simp only at hs ⊢
    rw [← hs]
    split <;> omega

theorem viewCl_k (p : Nat) (γ : Gh) (σ : Ds) (k : Nat) (wd : Wd) (a b : Int) (w : World) (hk : σ.ws[k]? = some wd) (hn : wd.news ≠ []) (hd : (Dev p γ σ).holds w) :
    Upd Try.prog 27 [.int .i64 a, .int .i64 b, .pointer (some ⟨(γ.g k).1, 0, none⟩)] (Dev p γ σ) (b64 (nowW wd)) (Dev p γ σ) w := by
 refine enterV hd Try.func27 rfl Try.ntmps27 rfl ?_
 unfold devL
 have hgd := Dev.good hd
 have hst := hgd.steps
 have hwd := hgd.word wd (List.mem_of_getElem? hk)
 have hpos := List.length_pos_iff.2 hn
 simp only [envOf]
 refine tR ?_
 refine tA rfl rfl ?_
 refine tE ?_
 refine At.seq ?_
 refine At.dbtSome 3 rfl hk hn (fun b o c hv => ?_)
 refine At.quiet rfl (by decide +kernel) ?_
 refine qM rfl rfl ?_
 refine QAt.val (Val.nilCheck rfl) rfl rfl rfl ?_
 refine QAt.val (Val.field 0 rfl fo_68_0 rfl) rfl rfl rfl ?_
 refine QAt.val (Val.loadDbt (i := 3) Try.isAgg66 rfl rfl hk hn rfl) rfl rfl rfl ?_
 refine qM rfl rfl ?_
 refine QAt.val (Val.nilCheck rfl) rfl rfl rfl ?_
 refine QAt.val (Val.field 0 rfl fo_68_0 rfl) rfl rfl rfl ?_
 refine QAt.val (Val.loadDbt (i := 3) Try.isAgg66 rfl rfl hk hn rfl) rfl rfl rfl ?_
 refine QAt.val (Val.lenDbt (i := 3) rfl hk hn Try.underlying66 rfl) rfl rfl rfl ?_
 refine QAt.val (Val.subI rfl rfl (by omega) (by omega)) rfl rfl rfl ?_
 rw [hv]
 refine QAt.val (Val.indexSl (o + (wd.news.length - 1)) (by omega) Try.underlying66 Try.sizeOf32 rfl rfl (by omega) (by omega)) rfl rfl rfl ?_
 refine QAt.val (Val.loadNews (i := 3) Try.isAgg32 rfl rfl hk hn hv rfl (now_last hn (y := nowW wd) rfl)) rfl rfl rfl ?_
 refine QAt.val (Val.assign rfl) rfl rfl rfl ?_
 refine QAt.fin ?_
 refine At.thenN ?_
 refine At.retC ?_
 refine At.ret1 (.inl rfl) rfl rfl rfl (fun w hw => ?_)
 exact ⟨rfl, retK (F := []) hw⟩

theorem crashCl_k (p : Nat) (γ : Gh) (σ : Ds) (k K bc bd : Nat) (wd : Wd) (vc : Value) (cs : List Int) (w : World) (hk : σ.ws[k]? = some wd) (hn : wd.news ≠ []) (hK : K < 65536) (hc : w.cell? ⟨bc, 0, none⟩ = some vc) (hcd : w.cell? ⟨bd, 0, none⟩ = some (.pointer (some ⟨p, 0, none⟩))) (hfc : ¬ feet [Dev p γ σ] bc) (hfd : ¬ feet [Dev p γ σ] bd) (hv : RdI w vc cs) (ho : Off vc (cs.map (Value.int .i64)) (feet [Dev p γ σ])) (hd : (Dev p γ σ).holds w) :
    Upd Try.prog 26 [.int .i64 (K : Int), .int .i64 (8 * (k : Int)), .pointer (some ⟨(γ.g k).1, 0, none⟩), .pointer (some ⟨bc, 0, none⟩), .pointer (some ⟨bd, 0, none⟩)] (Dev p γ σ) (b64 (pickC cs K wd)) (Dev p γ σ) w := by
 refine enterV hd Try.func26 rfl Try.ntmps26 rfl ?_
 unfold devL
 have hgd := Dev.good hd
 have hst := hgd.steps
 have hln := hgd.len
 have hkl := (List.getElem?_eq_some_iff.1 hk).1
 have hwd := hgd.word wd (List.mem_of_getElem? hk)
 have hpos := List.length_pos_iff.2 hn
 simp only [envOf]
 refine tR ?_
 refine tA rfl rfl ?_
 refine tE ?_
 refine tR ?_
 refine tA rfl rfl ?_
 refine tE ?_
 refine At.join (σ := Int) (fun c => c = (match cs[K]? with | some c => c.tmod ((wd.news.length : Int) + 1) | none => 0)) (fun c => [(1, .int .i64 (8 * (k : Int))), (2, .pointer (some ⟨(γ.g k).1, 0, none⟩)), (4, .pointer (some ⟨bd, 0, none⟩)), (9, .int .i64 c)]) (fun c => [blk p tDv ([γ.vo, .map (some γ.mb), .int .i64 (σ.steps : Int), .bool σ.armed, .int .i64 (σ.left : Int)]), rowR γ.vo tW 1 ((olds σ.ws).length) ((olds σ.ws).map b64), mapR γ.mb (mk σ.ws γ.g), fam (dI σ.ws γ.g), factR (Dgood σ)]) ?_ ?_
 ·skip
  refine tR ?_
  refine tM rfl rfl ?_
  refine At.val (Val.loadOld Try.isAgg23 rfl hc hfc) rfl rfl rfl ?_
  refine At.val (Val.lenRd hv Try.underlying23 rfl) rfl rfl rfl ?_
  refine At.val (Val.bin rfl rfl rfl) rfl rfl rfl ?_
  refine tE ?_
  refine At.cond rfl (fun h1 => ?_) (fun h1 => ?_)
  ·skip
   try simp only [hasB, isSizeB, Bool.not_eq_true', Bool.not_eq_false', bne_iff_ne, ne_eq, bne_eq_false_iff_eq, beq_iff_eq, beq_eq_false_iff_ne, decide_eq_true_eq, decide_eq_false_iff_not, gt_iff_lt, ge_iff_le] at h1
   refine At.quiet rfl (by decide +kernel) ?_
   refine QAt.val (Val.loadOld Try.isAgg23 rfl hc hfc) rfl rfl rfl ?_
   refine qM rfl rfl ?_
   refine QAt.idxI hv Try.underlying23 Try.sizeOf3 rfl rfl (by omega) (by omega) rfl rfl (fun bq oq c hcq hcell hvs => ?_)
   rw [Int.toNat_natCast] at hcq hvs
   obtain ⟨n', c', hvs⟩ := hvs
   refine QAt.val (Val.loadOld Try.isAgg3 rfl hcell (ho (fun h0 => by rw [List.map_eq_nil_iff] at h0; rw [h0] at hcq; cases hcq) _ _ _ _ _ hvs)) rfl rfl rfl ?_
   refine qM rfl rfl ?_
   refine QAt.val (Val.nilCheck rfl) rfl rfl rfl ?_
   refine QAt.val (Val.field 0 rfl fo_68_0 rfl) rfl rfl rfl ?_
   refine QAt.val (Val.loadDbt (i := 3) Try.isAgg66 rfl rfl hk hn rfl) rfl rfl rfl ?_
   refine QAt.val (Val.lenDbt (i := 3) rfl hk hn Try.underlying66 rfl) rfl rfl rfl ?_
   refine QAt.val (Val.addI rfl rfl (by omega) (by omega)) rfl rfl rfl ?_
   refine QAt.val (Val.rem rfl rfl (by omega)) rfl rfl rfl ?_
   refine QAt.val (Val.assign rfl) rfl rfl rfl ?_
   refine QAt.fin ?_
   refine At.thenN ?_
   exact At.meets (c.tmod ((wd.news.length : Int) + 1)) (by rw [hcq]) (Sub.cons rfl (Sub.cons rfl (Sub.cons rfl (Sub.cons rfl Sub.nil)))) (List.Perm.refl _)
  ·skip
   try simp only [hasB, isSizeB, Bool.not_eq_true', Bool.not_eq_false', bne_iff_ne, ne_eq, bne_eq_false_iff_eq, beq_iff_eq, beq_eq_false_iff_ne, decide_eq_true_eq, decide_eq_false_iff_not, gt_iff_lt, ge_iff_le] at h1
   have hcq : cs[K]? = none := List.getElem?_eq_none (by omega)
   refine At.skipC ?_
   refine At.thenN ?_
   exact At.meets (0 : Int) (by rw [hcq]) (Sub.cons rfl (Sub.cons rfl (Sub.cons rfl (Sub.cons rfl Sub.nil)))) (List.Perm.refl _)
 ·skip
  intro c hs
  have hcb := pick_bd (n := (wd.news.length : Int) + 1) (by omega) hs
  refine At.join (σ := Int) (fun e => e = (match cs[K]? with | some c => (if c.tmod ((wd.news.length : Int) + 1) < 0 then c.tmod ((wd.news.length : Int) + 1) + ((wd.news.length : Int) + 1) else c.tmod ((wd.news.length : Int) + 1)) | none => 0) ∧ 0 ≤ e ∧ e < (wd.news.length : Int) + 1) (fun e => [(1, .int .i64 (8 * (k : Int))), (2, .pointer (some ⟨(γ.g k).1, 0, none⟩)), (4, .pointer (some ⟨bd, 0, none⟩)), (9, .int .i64 e)]) (fun e => [blk p tDv ([γ.vo, .map (some γ.mb), .int .i64 (σ.steps : Int), .bool σ.armed, .int .i64 (σ.left : Int)]), rowR γ.vo tW 1 ((olds σ.ws).length) ((olds σ.ws).map b64), mapR γ.mb (mk σ.ws γ.g), fam (dI σ.ws γ.g), factR (Dgood σ)]) ?_ ?_
  ·skip
   refine tR ?_
   refine tM rfl rfl ?_
   refine At.val (Val.bin rfl rfl rfl) rfl rfl rfl ?_
   refine tE ?_
   refine At.cond rfl (fun h2 => ?_) (fun h2 => ?_)
   ·skip
    try simp only [hasB, isSizeB, Bool.not_eq_true', Bool.not_eq_false', bne_iff_ne, ne_eq, bne_eq_false_iff_eq, beq_iff_eq, beq_eq_false_iff_ne, decide_eq_true_eq, decide_eq_false_iff_not, gt_iff_lt, ge_iff_le] at h2
    refine At.region ?_
    refine tM rfl rfl ?_
    refine tM rfl rfl ?_
    refine At.val (Val.nilCheck rfl) rfl rfl rfl ?_
    refine At.val (Val.field 0 rfl fo_68_0 rfl) rfl rfl rfl ?_
    refine At.val (Val.loadDbt (i := 3) Try.isAgg66 rfl rfl hk hn rfl) rfl rfl rfl ?_
    refine At.val (Val.lenDbt (i := 3) rfl hk hn Try.underlying66 rfl) rfl rfl rfl ?_
    refine At.val (Val.addI rfl rfl (by omega) (by omega)) rfl rfl rfl ?_
    refine At.val (Val.addI rfl rfl (by omega) (by omega)) rfl rfl rfl ?_
    refine tA rfl rfl ?_
    refine tE ?_
    exact At.meets (c + ((wd.news.length : Int) + 1)) (pick_meet hs (by omega) (by omega) (by omega) (by omega)) (Sub.cons rfl (Sub.cons rfl (Sub.cons rfl (Sub.cons rfl Sub.nil)))) (List.Perm.refl _)
   ·skip
    try simp only [hasB, isSizeB, Bool.not_eq_true', Bool.not_eq_false', bne_iff_ne, ne_eq, bne_eq_false_iff_eq, beq_iff_eq, beq_eq_false_iff_ne, decide_eq_true_eq, decide_eq_false_iff_not, gt_iff_lt, ge_iff_le] at h2
    refine At.skipC ?_
    refine At.thenN ?_
    exact At.meets c (pick_meet hs (by omega) (by omega) (by omega) (by omega)) (Sub.cons rfl (Sub.cons rfl (Sub.cons rfl (Sub.cons rfl Sub.nil)))) (List.Perm.refl _)
  ·skip
   intro e hs
   refine At.seq ?_
   refine tR ?_
   refine tM rfl rfl ?_
   refine At.val (Val.bin rfl rfl rfl) rfl rfl rfl ?_
   refine tE ?_
   refine At.cond rfl (fun h3 => ?_) (fun h3 => ?_)
   ·skip
    try simp only [hasB, isSizeB, Bool.not_eq_true', Bool.not_eq_false', bne_iff_ne, ne_eq, bne_eq_false_iff_eq, beq_iff_eq, beq_eq_false_iff_ne, decide_eq_true_eq, decide_eq_false_iff_not, gt_iff_lt, ge_iff_le] at h3
    refine tR ?_
    refine At.val (Val.loadOld Try.isAgg25 rfl hcd hfd) rfl rfl rfl ?_
    refine At.val (Val.nilCheck rfl) rfl rfl rfl ?_
    refine At.val (Val.field 0 rfl fo_71_0 rfl) rfl rfl rfl ?_
    refine At.val (Val.load (i := 0) Try.isAgg66 rfl rfl rfl) rfl rfl rfl ?_
    refine tM rfl rfl ?_
    refine At.val (Val.quoI rfl rfl (by omega) (by omega) (by decide)) rfl rfl rfl ?_
    rw [show 8 * (k : Int) / 8 = (k : Int) from by omega]
    refine At.val (Val.indexRow (i := 1) k (by omega) Try.underlying66 Try.sizeOf32 rfl rfl rfl (by omega) (by rw [olds_length]; omega)) rfl rfl rfl ?_
    refine At.val (Val.loadRow (i := 1) Try.isAgg32 rfl rfl (by rw [List.getElem?_map, olds_at hk]; rfl)) rfl rfl rfl ?_
    refine tA rfl rfl ?_
    refine tE ?_
    refine At.retC ?_
    refine At.thenR ?_
    refine At.ret1 (.inl rfl) rfl rfl rfl (fun w hw => ?_)
    exact ⟨congrArg (fun z => Ending.returned (b64 z)) (pick_old (by omega) hs.1).symm, retK (F := []) hw⟩
   ·skip
    try simp only [hasB, isSizeB, Bool.not_eq_true', Bool.not_eq_false', bne_iff_ne, ne_eq, bne_eq_false_iff_eq, beq_iff_eq, beq_eq_false_iff_ne, decide_eq_true_eq, decide_eq_false_iff_not, gt_iff_lt, ge_iff_le] at h3
    refine At.skipC ?_
    refine At.thenN ?_
    refine At.seq ?_
    obtain ⟨z, hz⟩ : ∃ z, wd.news[(e - 1).toNat]? = some z := ⟨_, List.getElem?_eq_getElem (by omega)⟩
    refine At.dbtSome 3 rfl hk hn (fun b o c2 hv2 => ?_)
    refine At.region ?_
    refine tM rfl rfl ?_
    refine At.val (Val.nilCheck rfl) rfl rfl rfl ?_
    refine At.val (Val.field 0 rfl fo_68_0 rfl) rfl rfl rfl ?_
    refine At.val (Val.loadDbt (i := 3) Try.isAgg66 rfl rfl hk hn rfl) rfl rfl rfl ?_
    refine tM rfl rfl ?_
    refine At.val (Val.subI rfl rfl (by omega) (by omega)) rfl rfl rfl ?_
    rw [hv2]
    refine At.val (Val.indexSl (o + (e - 1).toNat) (by omega) Try.underlying66 Try.sizeOf32 rfl rfl (by omega) (by omega)) rfl rfl rfl ?_
    refine At.val (Val.loadNews (i := 3) Try.isAgg32 rfl rfl hk hn hv2 rfl hz) rfl rfl rfl ?_
    refine tA rfl rfl ?_
    refine tE ?_
    refine At.retC ?_
    refine At.ret1 (.inl rfl) rfl rfl rfl (fun w hw => ?_)
    exact ⟨congrArg (fun z => Ending.returned (b64 z)) (pick_new (by omega) hs.1 hz).symm, retK (F := []) hw⟩

end Go.Proofs.Ytgighokkflchmaa
