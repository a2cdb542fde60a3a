/- The document's device: bytes. -/
import Derived.Test.YtkpbpeajkfgfiaaR4
import Derived.Test.YtkpbpeajkfgfiaaP9
set_option linter.unusedVariables false
set_option linter.unusedSimpArgs false
namespace Go.Proofs.Ytkpbpeajkfgfiaa
open Go Go.Wk

theorem K_split (K : Nat) : 8 * ((8 * (K / 8) + K % 8 : Nat) : Int) = 8 * (K : Int) := by omega
theorem rnow_s (p : Nat) (γ : Rg) (ρ : Rs) (σ : Ds) (K : Nat) (wd : Wd) (w : World) (hsim : Sim σ ρ) (hk : σ.ws[K]? = some wd) (hd : (RDev p γ ρ).holds w) : Upd Try.prog 115 [.pointer (some ⟨p, 0, none⟩), .int .i64 (8 * (K : Int))] (RDev p γ ρ) (b64 (nowW wd)) (RDev p γ ρ) w := by
  obtain ⟨l, v0, u, h1, h2, h3, h4⟩ := hsim.at (List.getElem?_eq_some_iff.1 hk).1
  obtain rfl := Option.some.inj (hk.symm.trans h3)
  have := rnow_k p γ ρ (K / 8) (K % 8) l v0 w h1 (Nat.mod_lt _ (by decide)) h2 hd
  rwa [K_split, (simW_eval h4).2.2] at this
theorem rword_s (p : Nat) (γ : Rg) (ρ : Rs) (σ : Ds) (K : Nat) (wd : Wd) (w : World) (hsim : Sim σ ρ) (hk : σ.ws[K]? = some wd) (hd : (RDev p γ ρ).holds w) : RowKT Try.prog 111 [.pointer (some ⟨p, 0, none⟩), .int .i64 (8 * (K : Int))] (RDev p γ ρ) (fun v' => .tuple #[b64 wd.old, v']) tW 1 wd.news.length (wd.news.map b64) w := by
  obtain ⟨l, v0, u, h1, h2, h3, h4⟩ := hsim.at (List.getElem?_eq_some_iff.1 hk).1
  obtain rfl := Option.some.inj (hk.symm.trans h3)
  have := rword_k p γ ρ (K / 8) (K % 8) l v0 w h1 (Nat.mod_lt _ (by decide)) h2 hd
  rwa [K_split, (simW_eval h4).1, (simW_eval h4).2.1] at this
theorem rWord_s (p : Nat) (γ : Rg) (ρ : Rs) (σ : Ds) (K : Nat) (wd : Wd) (w : World) (hsim : Sim σ ρ) (hk : σ.ws[K]? = some wd) (hd : (RDev p γ ρ).holds w) : Upd Try.prog 86 [.pointer (some ⟨p, 0, none⟩), .int .i64 (8 * (K : Int))] (RDev p γ ρ) (.tuple #[b64 (nowW wd), .int .i64 0]) (RDev p γ ρ) w := by
  obtain ⟨l, v0, u, h1, h2, h3, h4⟩ := hsim.at (List.getElem?_eq_some_iff.1 hk).1
  obtain rfl := Option.some.inj (hk.symm.trans h3)
  have := rWord_k p γ ρ (K / 8) (K % 8) l v0 w h1 (Nat.mod_lt _ (by decide)) h2 hd
  rwa [K_split, (simW_eval h4).2.2] at this
/-- How many words below K are in doubt. -/
def inD (ws : List Wd) (k : Nat) : Bool := match ws[k]? with | some w => inDoubt w | none => false
def dkc (ws : List Wd) (K : Nat) : Nat := ((List.range K).filter (inD ws)).length
theorem inD_some {ws : List Wd} {k : Nat} {w : Wd} (h : ws[k]? = some w) : inD ws k = inDoubt w := by unfold inD; rw [h]
theorem inDoubt_T {w : Wd} (h : w.news ≠ []) : inDoubt w = true := by cases hn : w.news with | nil => exact absurd hn h | cons a l => simp [inDoubt, hn]
theorem inDoubt_F {w : Wd} (h : w.news = []) : inDoubt w = false := by simp [inDoubt, h]
theorem dkc_yes {ws : List Wd} {K : Nat} {w : Wd} (h : ws[K]? = some w) (hn : w.news ≠ []) : dkc ws (K + 1) = dkc ws K + 1 := by
  unfold dkc; rw [List.range_succ, List.filter_append, List.length_append, List.filter_cons_of_pos (by rw [inD_some h]; exact inDoubt_T hn)]; rfl
theorem dkc_no {ws : List Wd} {K : Nat} {w : Wd} (h : ws[K]? = some w) (hn : w.news = []) : dkc ws (K + 1) = dkc ws K := by
  unfold dkc; rw [List.range_succ, List.filter_append, List.length_append, List.filter_cons_of_neg (by rw [inD_some h, inDoubt_F hn]; simp)]; rfl
theorem dkc_at {ws : List Wd} {K : Nat} {w : Wd} (h : ws[K]? = some w) (hn : w.news ≠ []) : (dk ws)[dkc ws K]? = some K := by
  have hk := (List.getElem?_eq_some_iff.1 h).1
  have e : dk ws = (List.range ws.length).filter (inD ws) := rfl
  rw [e, show ws.length = (K + 1) + (ws.length - (K + 1)) by omega, List.range_add, List.filter_append, List.range_succ, List.filter_append, List.filter_cons_of_pos (by rw [inD_some h]; exact inDoubt_T hn), List.append_assoc]
  unfold dkc
  rw [List.getElem?_append_right (Nat.le_refl _), Nat.sub_self]; rfl
theorem dkc_all (ws : List Wd) : dkc ws ws.length = (dk ws).length := rfl
theorem dkc_le (ws : List Wd) (K : Nat) : dkc ws K ≤ K := by unfold dkc; exact Nat.le_trans (List.length_filter_le _ _) (by rw [List.length_range]; exact Nat.le_refl _)
def restI (c n : Int) : Int := if c.tmod n < 0 then c.tmod n + n else c.tmod n


theorem restI_bd {n : Nat} (c : Int) (h : n ≤ 1099511627776) : 0 ≤ restI c ((n : Int) + 1) ∧ restI c ((n : Int) + 1) ≤ n := by
  have h1 := Int.lt_tmod_of_pos c (b := (n : Int) + 1) (by omega)
  have h2 := Int.tmod_lt_of_pos c (b := (n : Int) + 1) (by omega)
  unfold restI; split <;> omega
theorem At.idxI' {P : Program} {Γ : Ctx} {E : Env} {H : List Res} {ops : Array Oper} {Q : Exit → Act → World → Prop} {rest : List Oper} {d : Nat} {ty : TypeId} {pos : String} {after : Array Edge} {x y : Operand} {v : Value} {t el : Nat} {l : List Int} {k : IntKind} {j : Int} {g : Option (Nat × Bool)} (h : RdI Γ.w0 v l) (ho : Off v (l.map (Value.int .i64)) Γ.S) (hu : P.underlying t = some (.slice el)) (hs : ∀ w, (sizeOf el).run P w = .ok 1 w) (hx : ev E x = some v) (hy : ev E y = some (.int k j)) (h0 : 0 ≤ j) (h1 : j < l.length)
    (hg : g = none) (hn : Nat.blt d Γ.n = true)
    (c : ∀ b o q, l[j.toNat]? = some q → Γ.w0.cell? ⟨b, o, none⟩ = some (.int .i64 q) → ¬ Γ.S b → At Γ ((d, .pointer (some ⟨b, o, none⟩)) :: E) H (wpList P ops Q rest)) :
    At Γ E H (wpList P ops Q ({ dst := some d, op := .indexAddr t x y, type := ty, pos, after, guard := g } :: rest)) := by
  obtain ⟨b, o, cap, rfl, hc⟩ := h.at (j := j.toNat) (by omega)
  have hq : l[j.toNat]? = some (l[j.toNat]'(by omega)) := List.getElem?_eq_getElem _
  exact At.val (Val.indexSl _ rfl hu hs hx hy h0 h1) hg rfl hn (c b _ _ hq (by have := hc 0 _ (by rw [Nat.mul_one, Nat.add_zero, List.getElem?_map, hq]; rfl); rwa [Nat.add_zero] at this) (ho (fun e => by rw [List.map_eq_nil_iff] at e; subst e; simp at h1; omega) b _ _ _ _ rfl))

theorem rput_r (v : Value) (K : Nat) (l : List UInt8) (x : BitVec 64) (w : World) (ho8 : 8 * K + 8 ≤ l.length) (hl : l.length ≤ 1000000) (hr : (brow 5 v l).holds w) :
    Upd Try.prog 113 [v, .int .i64 (8 * (K : Int)), b64 x] (brow 5 v l) (.tuple #[]) (brow 5 v (put8 l (8 * K) x)) w := by
 refine enter (feet [brow 5 v l]) [brow 5 v l] Try.func113 rfl Try.ntmps113 rfl (Rep.one hr) ?_
 simp only [envOf]
 refine tR ?_
 refine tA rfl rfl ?_
 refine tE ?_
 refine At.block ?_
 skip
 refine At.loop (σ := Nat) (fun k => k ≤ 8) (fun k => [(0, v), (1, .int .i64 (8 * (K : Int))), (2, b64 x), (6, .int .i64 (k : Int))]) (fun k => [brow 5 v (putK l (8 * K) x k)]) (fun k => 8 - k) 0 (Nat.zero_le _) (Sub.cons rfl (Sub.cons rfl (Sub.cons rfl (Sub.cons rfl Sub.nil)))) (by rw [putK_zero]) ?_
 intro k hs
 refine At.seq ?_
 refine tR ?_
 refine tM rfl rfl ?_
 refine At.val (Val.bin rfl rfl rfl) rfl rfl rfl ?_
 refine tE ?_
 refine At.cond rfl (fun h1 => ?_) (fun h1 => ?_)
 ·skip
  try simp only [hasB, isSizeB, Bool.not_eq_true', Bool.not_eq_false', bne_iff_ne, ne_eq, bne_eq_false_iff_eq, beq_iff_eq, beq_eq_false_iff_ne, decide_eq_true_eq, decide_eq_false_iff_not, gt_iff_lt, ge_iff_le] at h1
  have hk : k < 8 := by omega
  refine At.skipC ?_
  refine At.thenN ?_
  refine At.seq ?_
  refine At.block ?_
  refine At.region ?_
  refine tM rfl rfl ?_
  refine tM rfl rfl ?_
  refine tM rfl rfl ?_
  first | refine At.val (Val.addI rfl rfl (by omega) (by omega)) rfl rfl rfl ?_ | refine At.val (Val.bin rfl rfl rfl) rfl rfl rfl ?_
  refine tM rfl rfl ?_
  refine tM rfl rfl ?_
  first | refine At.val (Val.mulI rfl rfl (by omega) (by omega)) rfl rfl rfl ?_ | refine At.val (Val.bin rfl rfl rfl) rfl rfl rfl ?_
  first | refine At.val (Val.toU Try.underlying3 Try.underlying109 rfl (by omega) (by omega)) rfl rfl rfl ?_ | refine At.val (Val.conv Try.underlying3 Try.underlying109 rfl) rfl rfl rfl ?_
  refine At.val (Val.shr rfl rfl (by omega)) rfl rfl rfl ?_
  rw [shr_byte x hk]
  refine At.val (Val.toB Try.underlying30 Try.underlying5 rfl (Int.natCast_nonneg _)) rfl rfl rfl ?_
  rw [Int.toNat_natCast]
  have hpl := putK_length (l := l) (o := 8 * K) (k := k) x (by omega) (by omega)
  refine At.val (Val.indexRow (i := 0) (8 * K + k) (by omega) Try.underlying33 Try.sizeOf5 rfl rfl rfl (by omega) (by rw [hpl]; omega)) rfl rfl rfl ?_
  refine At.storeRowB (i := 0) Try.sizeOf5 rfl rfl rfl (by omega) ?_
  simp only [sc0, scS]
  rw [putK_step x (by omega) hk]
  refine At.nil ?_
  refine At.blkN ?_
  refine At.thenN ?_
  refine At.region ?_
  refine tM rfl rfl ?_
  first | refine At.val (Val.addI rfl rfl (by omega) (by omega)) rfl rfl rfl ?_ | refine At.val (Val.bin rfl rfl rfl) rfl rfl rfl ?_
  refine tA rfl rfl ?_
  refine tE ?_
  exact At.again (k + 1) (show k + 1 ≤ 8 by omega) (by omega) (Sub.cons rfl (Sub.cons rfl (Sub.cons rfl (Sub.cons (congrArg (fun z => some (Value.int IntKind.i64 z)) (by omega)) Sub.nil)))) (List.Perm.refl _)
 ·skip
  try simp only [hasB, isSizeB, Bool.not_eq_true', Bool.not_eq_false', bne_iff_ne, ne_eq, bne_eq_false_iff_eq, beq_iff_eq, beq_eq_false_iff_ne, decide_eq_true_eq, decide_eq_false_iff_not, gt_iff_lt, ge_iff_le] at h1
  obtain rfl : k = 8 := by omega
  refine At.exitC ?_
  refine At.thenX ?_
  refine At.thenX ?_
  refine At.blkX ?_
  refine At.ret0 (.inr rfl) rfl rfl  (fun w hw => ?_)
  exact ⟨rfl, hw⟩

theorem rest_p (c n : Int) (w : World) (h0 : 0 < n) (h1 : n ≤ 1099511627776) :
    PureC Try.prog 112 [.int .i64 c, .int .i64 n] (.int .i64 (restI c n)) w := by
 refine enter0 Try.func112 rfl Try.ntmps112 rfl ?_
 have hb1 := Int.lt_tmod_of_pos c h0
 have hb2 := Int.tmod_lt_of_pos c h0
 simp only [envOf]
 refine tR ?_
 refine tA rfl rfl ?_
 refine tE ?_
 refine tR ?_
 refine tM rfl rfl ?_
 refine tM rfl rfl ?_
 refine At.val (Val.rem rfl rfl (by omega)) rfl rfl rfl ?_
 refine tA rfl rfl ?_
 refine tE ?_
 refine At.seq ?_
 refine tR ?_
 refine tM rfl rfl ?_
 refine At.val (Val.bin rfl rfl rfl) rfl rfl rfl ?_
 refine tE ?_
 refine At.cond rfl (fun h1 => ?_) (fun h1 => ?_)
 ·skip
  try simp only [hasB, isSizeB, Bool.not_eq_true', Bool.not_eq_false', bne_iff_ne, ne_eq, bne_eq_false_iff_eq, beq_iff_eq, beq_eq_false_iff_ne, decide_eq_true_eq, decide_eq_false_iff_not, gt_iff_lt, ge_iff_le] at h1
  refine At.region ?_
  refine tM rfl rfl ?_
  refine tM rfl rfl ?_
  first | refine At.val (Val.addI rfl rfl (by omega) (by omega)) rfl rfl rfl ?_ | refine At.val (Val.bin rfl rfl rfl) rfl rfl rfl ?_
  refine tA rfl rfl ?_
  refine tE ?_
  refine tR ?_
  refine tM rfl rfl ?_
  refine tA rfl rfl ?_
  refine tE ?_
  refine At.retC ?_
  refine At.ret1 (.inl rfl) rfl rfl rfl (fun w hw => ?_)
  exact ⟨congrArg (fun z => Ending.returned (Value.int .i64 z)) (by unfold restI; first | rw [if_pos (by assumption)] | rw [if_neg (by assumption)]), hw.mod⟩
 ·skip
  try simp only [hasB, isSizeB, Bool.not_eq_true', Bool.not_eq_false', bne_iff_ne, ne_eq, bne_eq_false_iff_eq, beq_iff_eq, beq_eq_false_iff_ne, decide_eq_true_eq, decide_eq_false_iff_not, gt_iff_lt, ge_iff_le] at h1
  refine At.skipC ?_
  refine At.thenN ?_
  refine tR ?_
  refine tM rfl rfl ?_
  refine tA rfl rfl ?_
  refine tE ?_
  refine At.retC ?_
  refine At.ret1 (.inl rfl) rfl rfl rfl (fun w hw => ?_)
  exact ⟨congrArg (fun z => Ending.returned (Value.int .i64 z)) (by unfold restI; first | rw [if_pos (by assumption)] | rw [if_neg (by assumption)]), hw.mod⟩

theorem rview_s (p : Nat) (γ : Rg) (ρ : Rs) (σ : Ds) (w : World) (hsim : Sim σ ρ) (hwl : σ.ws.length ≤ 65536) (hd : (RDev p γ ρ).holds w) :
    RowK Try.prog 99 [.pointer (some ⟨p, 0, none⟩)] (RDev p γ ρ) 5 1 (wbytes (viewWs σ.ws)).length ((wbytes (viewWs σ.ws)).map bv) w := by
 refine enterRc hd Try.func99 rfl Try.ntmps99 rfl ?_
 obtain ⟨hQ, hg⟩ := RDev.facts hd
 have hln := hg.len
 have hps := hg.pos
 have hnw := hg.now
 have hsl := hsim.len
 have hxs : (viewWs σ.ws).length = σ.ws.length := List.length_map ..
 simp only [envOf]
 refine tR ?_
 refine tA rfl rfl ?_
 refine tE ?_
 refine tR ?_
 refine tM rfl rfl ?_
 refine At.callK 0 rfl (fun w hw hr => rsize_k _ _ _ w hr) Try.call85 rfl rfl ?_
 rw [show 64 * (ρ.ls.length : Int) = ((8 * σ.ws.length : Nat) : Int) from by have := hsim.len; omega]
 refine At.makeRowB (n := 8 * σ.ws.length) Try.underlying33 info_5 rfl rfl rfl rfl rfl (by omega) rfl (fun v1 => ?_)
 rw [← wbytes_zero]
 refine tA rfl rfl ?_
 refine tE ?_
 refine At.seq ?_
 refine tR ?_
 refine tA rfl rfl ?_
 refine tE ?_
 refine At.block ?_
 skip
 refine At.loop (σ := Nat) (fun K => K ≤ σ.ws.length) (fun K => [(0, .pointer (some ⟨p, 0, none⟩)), (3, v1), (4, .int .i64 (8 * (K : Int)))]) (fun K => [brow 5 v1 (wbytes ((viewWs σ.ws).take K ++ List.replicate ((viewWs σ.ws).length - K) 0)), RDev p γ ρ]) (fun K => σ.ws.length - K) 0 (Nat.zero_le _) (Sub.cons rfl (Sub.cons rfl (Sub.cons rfl Sub.nil))) (by rw [List.take_zero, List.nil_append, Nat.sub_zero, hxs]) ?_
 intro K hs
 have hxl : ((viewWs σ.ws).take K ++ List.replicate ((viewWs σ.ws).length - K) 0).length = σ.ws.length := by rw [List.length_append, List.length_take, List.length_replicate, hxs]; omega
 refine At.seq ?_
 refine tR ?_
 refine tM rfl rfl ?_
 refine tM rfl rfl ?_
 refine At.callK 1 rfl (fun w hw hr => rsize_k _ _ _ w hr) Try.call85 rfl rfl ?_
 refine At.val (Val.bin rfl rfl rfl) rfl rfl rfl ?_
 refine tE ?_
 refine At.cond rfl (fun h2 => ?_) (fun h2 => ?_)
 ·skip
  try simp only [hasB, isSizeB, Bool.not_eq_true', Bool.not_eq_false', bne_iff_ne, ne_eq, bne_eq_false_iff_eq, beq_iff_eq, beq_eq_false_iff_ne, decide_eq_true_eq, decide_eq_false_iff_not, gt_iff_lt, ge_iff_le] at h2
  have hK : K < σ.ws.length := by omega
  obtain ⟨wd, hk⟩ : ∃ wd, σ.ws[K]? = some wd := ⟨_, List.getElem?_eq_getElem hK⟩
  have hxk : (viewWs σ.ws)[K]? = some (nowW wd) := by unfold viewWs; rw [List.getElem?_map, hk]; rfl
  refine At.skipC ?_
  refine At.thenN ?_
  refine At.seq ?_
  refine At.block ?_
  refine tR ?_
  refine tM rfl rfl ?_
  refine tM rfl rfl ?_
  refine At.callK 1 rfl (fun w hw hr => rnow_s _ _ _ σ K wd w hsim hk hr) Try.call115 rfl rfl ?_
  refine tA rfl rfl ?_
  refine tE ?_
  refine At.region ?_
  refine tM rfl rfl ?_
  refine tM rfl rfl ?_
  refine tM rfl rfl ?_
  refine At.call1 0 rfl (fun w hw hr => rput_r _ K _ (nowW wd) w (by rw [wbytes_length, hxl]; omega) (by rw [wbytes_length, hxl]; omega) hr) Try.call113 rfl rfl ?_
  simp only [sc0, scS]
  refine At.nil ?_
  refine At.blkN ?_
  refine At.thenN ?_
  refine At.region ?_
  refine tM rfl rfl ?_
  first | refine At.val (Val.addI rfl rfl (by omega) (by omega)) rfl rfl rfl ?_ | refine At.val (Val.bin rfl rfl rfl) rfl rfl rfl ?_
  refine tA rfl rfl ?_
  refine tE ?_
  exact At.again (K + 1) (show K + 1 ≤ _ by omega) (by omega) (Sub.cons rfl (Sub.cons rfl (Sub.cons (congrArg (fun z => some (Value.int IntKind.i64 z)) (by omega)) Sub.nil))) (by rw [put8_set _ (by omega), take_set_zero hxk])
 ·skip
  try simp only [hasB, isSizeB, Bool.not_eq_true', Bool.not_eq_false', bne_iff_ne, ne_eq, bne_eq_false_iff_eq, beq_iff_eq, beq_eq_false_iff_ne, decide_eq_true_eq, decide_eq_false_iff_not, gt_iff_lt, ge_iff_le] at h2
  obtain rfl : K = σ.ws.length := by omega
  refine At.exitC ?_
  refine At.thenX ?_
  refine At.thenX ?_
  refine At.blkX ?_
  refine At.thenN ?_
  refine tR ?_
  refine tM rfl rfl ?_
  refine tA rfl rfl ?_
  refine tE ?_
  refine At.retC ?_
  refine At.ret1 (.inl rfl) rfl rfl rfl (fun w hw => ?_)
  rw [← hxs, List.take_length, Nat.sub_self, List.replicate_zero, List.append_nil] at hw
  exact ⟨_, rfl, hw⟩

theorem rcrash_s (p : Nat) (γ : Rg) (ρ : Rs) (σ : Ds) (vc : Value) (cs : List Int) (w : World) (hsim : Sim σ ρ) (hwl : σ.ws.length ≤ 65536) (hst : ∀ u ∈ σ.ws, u.news.length ≤ 1099511627775) (hv : RdI w vc cs) (ho : Off vc (cs.map (Value.int .i64)) (feet [RDev p γ ρ])) (hd : (RDev p γ ρ).holds w) :
    RowK Try.prog 83 [.pointer (some ⟨p, 0, none⟩), vc] (RDev p γ ρ) 5 1 (wbytes (picked σ.ws (pkC σ.ws cs))).length ((wbytes (picked σ.ws (pkC σ.ws cs))).map bv) w := by
 refine enterRc hd Try.func83 rfl Try.ntmps83 rfl ?_
 obtain ⟨hQ, hg⟩ := RDev.facts hd
 have hln := hg.len
 have hps := hg.pos
 have hnw := hg.now
 have hsl := hsim.len
 have hxs : (picked σ.ws (pkC σ.ws cs)).length = σ.ws.length := picked_length ..
 simp only [envOf]
 refine tR ?_
 refine tA rfl rfl ?_
 refine tE ?_
 refine tR ?_
 refine tM rfl rfl ?_
 refine At.callK 0 rfl (fun w hw hr => rsize_k _ _ _ w hr) Try.call85 rfl rfl ?_
 rw [show 64 * (ρ.ls.length : Int) = ((8 * σ.ws.length : Nat) : Int) from by have := hsim.len; omega]
 refine At.makeRowB (n := 8 * σ.ws.length) Try.underlying33 info_5 rfl rfl rfl rfl rfl (by omega) rfl (fun v1 => ?_)
 rw [← wbytes_zero]
 refine tA rfl rfl ?_
 refine tE ?_
 refine tR ?_
 refine tA rfl rfl ?_
 refine tE ?_
 refine At.seq ?_
 refine tR ?_
 refine tA rfl rfl ?_
 refine tE ?_
 refine At.block ?_
 skip
 refine At.loop (σ := Nat) (fun K => K ≤ σ.ws.length) (fun K => [(0, .pointer (some ⟨p, 0, none⟩)), (1, vc), (5, v1), (6, .int .i64 ((dkc σ.ws K : Nat) : Int)), (7, .int .i64 (8 * (K : Int)))]) (fun K => [brow 5 v1 (wbytes ((picked σ.ws (pkC σ.ws cs)).take K ++ List.replicate ((picked σ.ws (pkC σ.ws cs)).length - K) 0)), RDev p γ ρ]) (fun K => σ.ws.length - K) 0 (Nat.zero_le _) (Sub.cons rfl (Sub.cons rfl (Sub.cons rfl (Sub.cons rfl (Sub.cons rfl Sub.nil))))) (by rw [List.take_zero, List.nil_append, Nat.sub_zero, hxs]) ?_
 intro K hs
 have hxl : ((picked σ.ws (pkC σ.ws cs)).take K ++ List.replicate ((picked σ.ws (pkC σ.ws cs)).length - K) 0).length = σ.ws.length := by rw [List.length_append, List.length_take, List.length_replicate, hxs]; omega
 have hdc := dkc_le σ.ws K
 refine At.seq ?_
 refine tR ?_
 refine tM rfl rfl ?_
 refine tM rfl rfl ?_
 refine At.callK 1 rfl (fun w hw hr => rsize_k _ _ _ w hr) Try.call85 rfl rfl ?_
 refine At.val (Val.bin rfl rfl rfl) rfl rfl rfl ?_
 refine tE ?_
 refine At.cond rfl (fun h2 => ?_) (fun h2 => ?_)
 ·skip
  try simp only [hasB, isSizeB, Bool.not_eq_true', Bool.not_eq_false', bne_iff_ne, ne_eq, bne_eq_false_iff_eq, beq_iff_eq, beq_eq_false_iff_ne, decide_eq_true_eq, decide_eq_false_iff_not, gt_iff_lt, ge_iff_le] at h2
  have hK : K < σ.ws.length := by omega
  obtain ⟨wd, hk⟩ : ∃ wd, σ.ws[K]? = some wd := ⟨_, List.getElem?_eq_getElem hK⟩
  have hnl := hst wd (List.mem_of_getElem? hk)
  refine At.skipC ?_
  refine At.thenN ?_
  refine At.seq ?_
  refine At.block ?_
  refine tR ?_
  refine tM rfl rfl ?_
  refine tM rfl rfl ?_
  refine At.callRKT 1 rfl (fun w hw hr => rword_s _ _ _ σ K wd w hsim hk hr) Try.call111 rfl rfl (fun v3 => ?_)
  refine tM rfl rfl ?_
  refine At.val (Val.extract rfl rfl) rfl rfl rfl ?_
  refine At.val (Val.extract rfl rfl) rfl rfl rfl ?_
  refine tA rfl rfl ?_
  refine tA rfl rfl ?_
  refine tE ?_
  refine At.join (σ := BitVec 64) (fun z => (picked σ.ws (pkC σ.ws cs))[K]? = some z) (fun z => [(0, .pointer (some ⟨p, 0, none⟩)), (1, vc), (5, v1), (7, .int .i64 (8 * (K : Int))), (6, .int .i64 ((dkc σ.ws (K + 1) : Nat) : Int)), (8, b64 z)]) (fun z => [rowR v1 5 1 (((wbytes ((picked σ.ws (pkC σ.ws cs)).take K ++ List.replicate ((picked σ.ws (pkC σ.ws cs)).length - K) 0))).length) (((wbytes ((picked σ.ws (pkC σ.ws cs)).take K ++ List.replicate ((picked σ.ws (pkC σ.ws cs)).length - K) 0))).map bv), RDev p γ (ρ)]) ?_ ?_
  ·skip
   refine tR ?_
   refine tM rfl rfl ?_
   refine At.val (Val.lenRow (i := 0) Try.underlying36 rfl rfl) rfl rfl rfl ?_
   refine At.val (Val.bin rfl rfl rfl) rfl rfl rfl ?_
   refine tE ?_
   refine At.cond rfl (fun h4 => ?_) (fun h4 => ?_)
   ·skip
    try simp only [hasB, isSizeB, Bool.not_eq_true', Bool.not_eq_false', bne_iff_ne, ne_eq, bne_eq_false_iff_eq, beq_iff_eq, beq_eq_false_iff_ne, decide_eq_true_eq, decide_eq_false_iff_not, gt_iff_lt, ge_iff_le] at h4
    have hn : wd.news ≠ [] := List.length_pos_iff.1 (by omega)
    have hdk := dkc_at hk hn
    refine tR ?_
    refine tA rfl rfl ?_
    refine tE ?_
    refine At.join (σ := Int) (fun r => r = (match cs[dkc σ.ws K]? with | some c => restI c ((wd.news.length : Int) + 1) | none => 0) ∧ 0 ≤ r ∧ r ≤ wd.news.length) (fun r => [(0, .pointer (some ⟨p, 0, none⟩)), (1, vc), (5, v1), (7, .int .i64 (8 * (K : Int))), (6, .int .i64 ((dkc σ.ws K : Nat) : Int)), (8, b64 wd.old), (9, v3), (10, .int .i64 r)]) (fun r => [rowR v3 30 1 ((wd.news).length) ((wd.news).map b64), rowR v1 5 1 (((wbytes ((picked σ.ws (pkC σ.ws cs)).take K ++ List.replicate ((picked σ.ws (pkC σ.ws cs)).length - K) 0))).length) (((wbytes ((picked σ.ws (pkC σ.ws cs)).take K ++ List.replicate ((picked σ.ws (pkC σ.ws cs)).length - K) 0))).map bv), RDev p γ (ρ)]) ?_ ?_
    ·skip
     refine tR ?_
     refine tM rfl rfl ?_
     refine tM rfl rfl ?_
     refine At.val (Val.lenRd hv Try.underlying23 rfl) rfl rfl rfl ?_
     refine At.val (Val.bin rfl rfl rfl) rfl rfl rfl ?_
     refine tE ?_
     refine At.cond rfl (fun h5 => ?_) (fun h5 => ?_)
     ·skip
      try simp only [hasB, isSizeB, Bool.not_eq_true', Bool.not_eq_false', bne_iff_ne, ne_eq, bne_eq_false_iff_eq, beq_iff_eq, beq_eq_false_iff_ne, decide_eq_true_eq, decide_eq_false_iff_not, gt_iff_lt, ge_iff_le] at h5
      refine At.region ?_
      refine tM rfl rfl ?_
      refine tM rfl rfl ?_
      refine At.idxI' hv ho Try.underlying23 Try.sizeOf3 rfl rfl (by omega) (by omega) rfl rfl (fun bx ox cx hcx hcc hox => ?_)
      rw [Int.toNat_natCast] at hcx
      refine At.val (Val.loadOld Try.isAgg3 rfl hcc hox) rfl rfl rfl ?_
      refine tM rfl rfl ?_
      refine At.val (Val.lenRow (i := 0) Try.underlying36 rfl rfl) rfl rfl rfl ?_
      first | refine At.val (Val.addI rfl rfl (by omega) (by omega)) rfl rfl rfl ?_ | refine At.val (Val.bin rfl rfl rfl) rfl rfl rfl ?_
      refine At.callP (fun w hw => rest_p cx ((wd.news.length : Int) + 1) w (by omega) (by omega)) Try.call112 rfl rfl ?_
      refine tA rfl rfl ?_
      refine tE ?_
      exact At.meets _ ⟨by rw [hcx], restI_bd _ (by omega)⟩ (Sub.cons rfl (Sub.cons rfl (Sub.cons rfl (Sub.cons rfl (Sub.cons rfl (Sub.cons rfl (Sub.cons rfl (Sub.cons rfl Sub.nil)))))))) (List.Perm.refl _)
     ·skip
      try simp only [hasB, isSizeB, Bool.not_eq_true', Bool.not_eq_false', bne_iff_ne, ne_eq, bne_eq_false_iff_eq, beq_iff_eq, beq_eq_false_iff_ne, decide_eq_true_eq, decide_eq_false_iff_not, gt_iff_lt, ge_iff_le] at h5
      have hcx : cs[dkc σ.ws K]? = none := List.getElem?_eq_none (by omega)
      refine At.skipC ?_
      refine At.thenN ?_
      exact At.meets 0 ⟨by rw [hcx], by omega, by omega⟩ (Sub.cons rfl (Sub.cons rfl (Sub.cons rfl (Sub.cons rfl (Sub.cons rfl (Sub.cons rfl (Sub.cons rfl (Sub.cons rfl Sub.nil)))))))) (List.Perm.refl _)
    ·skip
     intro r hs
     refine At.join (σ := Unit) (fun u => True) (fun u => [(0, .pointer (some ⟨p, 0, none⟩)), (1, vc), (5, v1), (7, .int .i64 (8 * (K : Int))), (6, .int .i64 ((dkc σ.ws K : Nat) : Int)), (8, b64 (pickC cs (dkc σ.ws K) wd))]) (fun u => [rowR v3 30 1 ((wd.news).length) ((wd.news).map b64), rowR v1 5 1 (((wbytes ((picked σ.ws (pkC σ.ws cs)).take K ++ List.replicate ((picked σ.ws (pkC σ.ws cs)).length - K) 0))).length) (((wbytes ((picked σ.ws (pkC σ.ws cs)).take K ++ List.replicate ((picked σ.ws (pkC σ.ws cs)).length - K) 0))).map bv), RDev p γ (ρ)]) ?_ ?_
     ·skip
      refine tR ?_
      refine tM rfl rfl ?_
      refine At.val (Val.bin rfl rfl rfl) rfl rfl rfl ?_
      refine tE ?_
      refine At.cond rfl (fun h6 => ?_) (fun h6 => ?_)
      ·skip
       try simp only [hasB, isSizeB, Bool.not_eq_true', Bool.not_eq_false', bne_iff_ne, ne_eq, bne_eq_false_iff_eq, beq_iff_eq, beq_eq_false_iff_ne, decide_eq_true_eq, decide_eq_false_iff_not, gt_iff_lt, ge_iff_le] at h6
       refine At.region ?_
       refine tM rfl rfl ?_
       refine tM rfl rfl ?_
       first | refine At.val (Val.subI rfl rfl (by omega) (by omega)) rfl rfl rfl ?_ | refine At.val (Val.bin rfl rfl rfl) rfl rfl rfl ?_
       obtain ⟨zv, hzv⟩ : ∃ zv, wd.news[(r - 1).toNat]? = some zv := ⟨_, List.getElem?_eq_getElem (by omega)⟩
       refine At.val (Val.indexRow (i := 0) (r - 1).toNat (by omega) Try.underlying36 Try.sizeOf30 rfl rfl rfl (by omega) (by omega)) rfl rfl rfl ?_
       refine At.val (Val.loadRow (i := 0) Try.isAgg30 rfl rfl (by rw [List.getElem?_map, hzv]; rfl)) rfl rfl rfl ?_
       refine tA rfl rfl ?_
       refine tE ?_
       exact At.meets () trivial (Sub.cons rfl (Sub.cons rfl (Sub.cons rfl (Sub.cons rfl (Sub.cons rfl (Sub.cons (congrArg (fun z : BitVec 64 => some (b64 z)) (pick_new (c := r) (by omega) hs.1 hzv).symm) Sub.nil)))))) (List.Perm.refl _)
      ·skip
       try simp only [hasB, isSizeB, Bool.not_eq_true', Bool.not_eq_false', bne_iff_ne, ne_eq, bne_eq_false_iff_eq, beq_iff_eq, beq_eq_false_iff_ne, decide_eq_true_eq, decide_eq_false_iff_not, gt_iff_lt, ge_iff_le] at h6
       refine At.skipC ?_
       refine At.thenN ?_
       exact At.meets () trivial (Sub.cons rfl (Sub.cons rfl (Sub.cons rfl (Sub.cons rfl (Sub.cons rfl (Sub.cons (congrArg (fun z : BitVec 64 => some (b64 z)) (pick_old (c := r) (by omega) hs.1).symm) Sub.nil)))))) (List.Perm.refl _)
     ·skip
      intro u hs
      refine At.region ?_
      refine tM rfl rfl ?_
      first | refine At.val (Val.addI rfl rfl (by omega) (by omega)) rfl rfl rfl ?_ | refine At.val (Val.bin rfl rfl rfl) rfl rfl rfl ?_
      refine tA rfl rfl ?_
      refine At.nil ?_
      refine At.drop 0 ?_
      simp only [ec0, ecS]
      refine At.thenN ?_
      exact At.meets (pickC cs (dkc σ.ws K) wd) (by rw [picked_new hdk, pkC_at hk]) (Sub.cons rfl (Sub.cons rfl (Sub.cons rfl (Sub.cons rfl (Sub.cons (congrArg (fun z => some (Value.int IntKind.i64 z)) (by rw [dkc_yes hk hn]; omega)) (Sub.cons rfl Sub.nil)))))) (List.Perm.refl _)
   ·skip
    try simp only [hasB, isSizeB, Bool.not_eq_true', Bool.not_eq_false', bne_iff_ne, ne_eq, bne_eq_false_iff_eq, beq_iff_eq, beq_eq_false_iff_ne, decide_eq_true_eq, decide_eq_false_iff_not, gt_iff_lt, ge_iff_le] at h4
    have hn : wd.news = [] := List.eq_nil_of_length_eq_zero (by omega)
    refine At.drop 0 ?_
    simp only [ec0, ecS]
    refine At.skipC ?_
    refine At.thenN ?_
    exact At.meets wd.old (picked_old hk hn) (Sub.cons rfl (Sub.cons rfl (Sub.cons rfl (Sub.cons rfl (Sub.cons (congrArg (fun z => some (Value.int IntKind.i64 z)) (by rw [dkc_no hk hn])) (Sub.cons rfl Sub.nil)))))) (List.Perm.refl _)
  ·skip
   intro z hs
   have hxk := hs
   refine At.region ?_
   refine tM rfl rfl ?_
   refine tM rfl rfl ?_
   refine tM rfl rfl ?_
   refine At.call1 0 rfl (fun w hw hr => rput_r _ K _ (z) w (by rw [wbytes_length, hxl]; omega) (by rw [wbytes_length, hxl]; omega) hr) Try.call113 rfl rfl ?_
   simp only [sc0, scS]
   refine At.nil ?_
   refine At.blkN ?_
   refine At.thenN ?_
   refine At.region ?_
   refine tM rfl rfl ?_
   first | refine At.val (Val.addI rfl rfl (by omega) (by omega)) rfl rfl rfl ?_ | refine At.val (Val.bin rfl rfl rfl) rfl rfl rfl ?_
   refine tA rfl rfl ?_
   refine tE ?_
   exact At.again (K + 1) (show K + 1 ≤ _ by omega) (by omega) (Sub.cons rfl (Sub.cons rfl (Sub.cons rfl (Sub.cons rfl (Sub.cons (congrArg (fun z => some (Value.int IntKind.i64 z)) (by omega)) Sub.nil))))) (by rw [put8_set _ (by omega), take_set_zero hxk])
 ·skip
  try simp only [hasB, isSizeB, Bool.not_eq_true', Bool.not_eq_false', bne_iff_ne, ne_eq, bne_eq_false_iff_eq, beq_iff_eq, beq_eq_false_iff_ne, decide_eq_true_eq, decide_eq_false_iff_not, gt_iff_lt, ge_iff_le] at h2
  obtain rfl : K = σ.ws.length := by omega
  refine At.exitC ?_
  refine At.thenX ?_
  refine At.thenX ?_
  refine At.blkX ?_
  refine At.thenN ?_
  refine tR ?_
  refine tM rfl rfl ?_
  refine tA rfl rfl ?_
  refine tE ?_
  refine At.retC ?_
  refine At.ret1 (.inl rfl) rfl rfl rfl (fun w hw => ?_)
  rw [← hxs, List.take_length, Nat.sub_self, List.replicate_zero, List.append_nil] at hw
  exact ⟨_, rfl, hw⟩

end Go.Proofs.Ytkpbpeajkfgfiaa
