/- Stores and flushes in a row. -/
import Derived.Test.YtkpbpeajkfgfiaaP6
set_option linter.unusedVariables false
set_option linter.unusedSimpArgs false
namespace Go.Proofs.Ytkpbpeajkfgfiaa
open Go Go.Wk

/-- The flush of a line; the lines from l on, rising, until the device dies. -/
def lineD (σ : Ds) (l : Nat) : Ds := flushK (stepD σ) (8 * l) 8
def linesE : Nat → Ds → Nat → Int × Ds
  | _, σ, 0 => (0, σ)
  | l, σ, k + 1 => if deadB σ = true then (13, σ) else linesE (l + 1) (lineD σ l) k
theorem linesE_dead {l k : Nat} {σ : Ds} (h : deadB σ = true) : linesE l σ (k + 1) = (13, σ) := by unfold linesE; rw [if_pos h]
theorem linesE_live {l k : Nat} {σ : Ds} (h : deadB σ = false) : linesE l σ (k + 1) = linesE (l + 1) (lineD σ l) k := by
  show (if deadB σ = true then (13, σ) else linesE (l + 1) (lineD σ l) k) = _
  rw [if_neg (by rw [h]; simp)]
theorem lineD_rest (σ : Ds) (l : Nat) : (lineD σ l).steps = σ.steps + 1 ∧ (lineD σ l).armed = σ.armed ∧ (lineD σ l).ws.length = σ.ws.length := by
  obtain ⟨h1, h2, _, h4, _⟩ := flushK_rest (stepD σ) (8 * l) 8
  exact ⟨h1, h2, h4⟩
/-- A store; the stores from the word k on, rising, until the device dies. -/
def storeD (σ : Ds) (k : Nat) (x : BitVec 64) : Ds := match σ.ws[k]? with | some w => setD (stepD σ) k (pushW w x) | none => σ
def storesE : Nat → Ds → List (BitVec 64) → Int × Ds
  | _, σ, [] => (0, σ)
  | k, σ, x :: l => if deadB σ = true then (13, σ) else storesE (k + 1) (storeD σ k x) l
theorem storesE_dead {k : Nat} {σ : Ds} {x : BitVec 64} {l : List (BitVec 64)} (h : deadB σ = true) : storesE k σ (x :: l) = (13, σ) := by unfold storesE; rw [if_pos h]
theorem storesE_live {k : Nat} {σ : Ds} {x : BitVec 64} {l : List (BitVec 64)} (h : deadB σ = false) : storesE k σ (x :: l) = storesE (k + 1) (storeD σ k x) l := by
  show (if deadB σ = true then (13, σ) else storesE (k + 1) (storeD σ k x) l) = _
  rw [if_neg (by rw [h]; simp)]
theorem storeD_some {σ : Ds} {k : Nat} {x : BitVec 64} {w : Wd} (h : σ.ws[k]? = some w) : storeD σ k x = setD (stepD σ) k (pushW w x) := by unfold storeD; rw [h]
theorem storeD_rest {σ : Ds} {k : Nat} (x : BitVec 64) (h : k < σ.ws.length) : (storeD σ k x).steps = σ.steps + 1 ∧ (storeD σ k x).armed = σ.armed ∧ (storeD σ k x).ws.length = σ.ws.length := by
  rw [storeD_some (List.getElem?_eq_getElem h)]
  exact ⟨rfl, rfl, by simp [setD, stepD]⟩
def cntP (a n cnt : Nat) : Prop := (n = 0 → cnt = 0) ∧ (0 < n → cnt = (a + n - 1) / 64 + 1 - a / 64)
def cntL (a n : Nat) : Nat := if n = 0 then 0 else (a + n - 1) / 64 + 1 - a / 64
theorem cntL_P (a n : Nat) : cntP a n (cntL a n) := ⟨fun h => by unfold cntL; rw [if_pos h], fun h => by unfold cntL; rw [if_neg (by omega)]⟩
theorem drop_cons {l : List (BitVec 64)} {j : Nat} {x : BitVec 64} (h : l[j]? = some x) : l.drop j = x :: l.drop (j + 1) := by
  have hj := List.getElem?_eq_some_iff.1 h
  rw [List.drop_eq_getElem_cons hj.1, hj.2]


theorem place_at' {σ : Ds} {a : Int} (h0 : 0 ≤ a) (h1 : a < 8 * (σ.ws.length : Int)) (h8 : a % 8 = 0) : placeE σ a = 0 := by
  obtain ⟨k, rfl⟩ : ∃ k : Nat, a = 8 * (k : Int) := ⟨(a / 8).toNat, by omega⟩
  exact place_at (by omega)


theorem At.idxO {P : Program} {Γ : Ctx} {E : Env} {H : List Res} {ops : Array Oper} {Q : Exit → Act → World → Prop} {rest : List Oper} {d : Nat} {ty : TypeId} {pos : String} {after : Array Edge} {x y : Operand} {v : Value} {t el j : Nat} {l : List (BitVec 64)} {k : IntKind} {z : BitVec 64} {g : Option (Nat × Bool)} (h : RdW Γ.w0 v l) (ho : Off v (l.map b64) Γ.S) (hu : P.underlying t = some (.slice el)) (hs : ∀ w, (sizeOf el).run P w = .ok 1 w) (hx : ev E x = some v) (hy : ev E y = some (.int k (j : Int))) (hz : l[j]? = some z)
    (hg : g = none) (hn : Nat.blt d Γ.n = true)
    (c : ∀ b o, Γ.w0.cell? ⟨b, o, none⟩ = some (b64 z) → ¬ Γ.S b → At Γ ((d, .pointer (some ⟨b, o, none⟩)) :: E) H (wpList P ops Q rest)) :
    At Γ E H (wpList P ops Q ({ dst := some d, op := .indexAddr t x y, type := ty, pos, after, guard := g } :: rest)) := by
  have hj := (List.getElem?_eq_some_iff.1 hz).1
  obtain ⟨b, o, cap, rfl, hc⟩ := h.at (j := j) hj
  exact At.val (Val.indexSl _ rfl hu hs hx hy (by omega) (by omega)) hg rfl hn (c b _ (by have := hc 0 (b64 z) (by rw [Nat.mul_one, Nat.add_zero, List.getElem?_map, hz]; rfl); rwa [Nat.add_zero] at this) (ho (fun e => by rw [List.map_eq_nil_iff] at e; rw [e] at hz; cases hz) b _ _ _ _ rfl))

theorem flushAll_d (p : Nat) (γ : Gh) (σ : Ds) (a n cnt : Nat) (w : World) (han : a + n ≤ 8 * σ.ws.length) (hct : cntP a n cnt) (hst : σ.steps + cnt ≤ 1099511627776) (hd : (Dev p γ σ).holds w) :
    DevU Try.prog 40 [.pointer (some ⟨p, 0, none⟩), .int .i64 (a : Int), .int .i64 (n : Int)] p γ σ (.int .i64 (linesE (a / 64) σ cnt).1) (linesE (a / 64) σ cnt).2 w := by
 refine enterVc hd Try.func40 rfl Try.ntmps40 rfl ?_
 have hgd := Dev.good hd
 have hln := hgd.len
 obtain ⟨hc0, hc1⟩ := hct
 simp only [envOf]
 refine tR ?_
 refine tA rfl rfl ?_
 refine tE ?_
 refine At.seq ?_
 refine tR ?_
 refine tM rfl rfl ?_
 refine tM rfl rfl ?_
 refine tM rfl rfl ?_
 refine At.callK 0 rfl (fun w hw hr => has_k _ _ _ _ _ w hr) Try.call62 rfl rfl ?_
 refine At.val (Val.not rfl) rfl rfl rfl ?_
 refine tE ?_
 refine At.cond rfl (fun h1 => ?_) (fun h1 => ?_)
 ·skip
  try simp only [hasB, isSizeB, Bool.not_eq_true', Bool.not_eq_false', bne_iff_ne, ne_eq, bne_eq_false_iff_eq, beq_iff_eq, beq_eq_false_iff_ne, decide_eq_true_eq, decide_eq_false_iff_not, gt_iff_lt, ge_iff_le] at h1
  omega
 ·skip
  try simp only [hasB, isSizeB, Bool.not_eq_true', Bool.not_eq_false', bne_iff_ne, ne_eq, bne_eq_false_iff_eq, beq_iff_eq, beq_eq_false_iff_ne, decide_eq_true_eq, decide_eq_false_iff_not, gt_iff_lt, ge_iff_le] at h1
  refine At.skipC ?_
  refine At.thenN ?_
  refine At.seq ?_
  refine tR ?_
  refine tM rfl rfl ?_
  refine tM rfl rfl ?_
  first | refine At.val (Val.remI rfl rfl (by omega) (by decide)) rfl rfl rfl ?_ | refine At.val (Val.rem rfl rfl (by decide)) rfl rfl rfl ?_
  first | refine At.val (Val.subI rfl rfl (by omega) (by omega)) rfl rfl rfl ?_ | refine At.val (Val.bin rfl rfl rfl) rfl rfl rfl ?_
  refine tA rfl rfl ?_
  refine tE ?_
  refine At.block ?_
  skip
  refine At.loop (σ := (Nat × Ds) × Gh) (fun s => s.1.1 ≤ cnt ∧ linesE (a / 64) σ cnt = linesE (a / 64 + s.1.1) s.1.2 (cnt - s.1.1) ∧ s.1.2.ws.length = σ.ws.length ∧ s.1.2.steps = σ.steps + s.1.1) (fun s => [(0, .pointer (some ⟨p, 0, none⟩)), (1, .int .i64 (a : Int)), (2, .int .i64 (n : Int)), (7, .int .i64 (64 * (((a / 64 : Nat) : Int) + (s.1.1 : Int))))]) (fun s => [Dev p s.2 s.1.2]) (fun s => cnt - s.1.1) ((0, σ), γ) ⟨Nat.zero_le _, rfl, rfl, rfl⟩ (Sub.cons rfl (Sub.cons rfl (Sub.cons rfl (Sub.cons (congrArg (fun z => some (Value.int IntKind.i64 z)) (by dsimp only; omega)) Sub.nil)))) (List.Perm.refl _) ?_
  intro s hs
  obtain ⟨⟨j, σ1⟩, γ1⟩ := s
  dsimp only at hs ⊢
  obtain ⟨hj, he, hl1, hs1⟩ := hs
  refine At.seq ?_
  refine tR ?_
  refine tM rfl rfl ?_
  refine tM rfl rfl ?_
  refine tM rfl rfl ?_
  first | refine At.val (Val.addI rfl rfl (by omega) (by omega)) rfl rfl rfl ?_ | refine At.val (Val.bin rfl rfl rfl) rfl rfl rfl ?_
  refine At.val (Val.bin rfl rfl rfl) rfl rfl rfl ?_
  refine At.weaken [(0, _), (1, _), (2, _), (7, _), (22, _)] (Sub.cons rfl (Sub.cons rfl (Sub.cons rfl (Sub.cons rfl (Sub.cons rfl Sub.nil))))) ?_
  refine At.boolMeet 4 26 (decide (j < cnt)) ?_ ?_
  ·skip
   simp only [List.take_succ_cons, List.take_zero]
   refine tM rfl rfl ?_
   refine At.split (t := 23) rfl (fun h2 => ?_) (fun h2 => ?_)
   ·skip
    try simp only [hasB, isSizeB, Bool.not_eq_true', Bool.not_eq_false', bne_iff_ne, ne_eq, bne_eq_false_iff_eq, beq_iff_eq, beq_eq_false_iff_ne, decide_eq_true_eq, decide_eq_false_iff_not, gt_iff_lt, ge_iff_le] at h2
    refine At.yes rfl rfl ?_
    refine tM rfl rfl ?_
    refine At.yes rfl rfl ?_
    refine At.val (Val.bin rfl rfl rfl) rfl rfl rfl ?_
    refine At.val (Val.pickT rfl rfl) rfl rfl rfl ?_
    refine At.nil ?_
    exact At.boolEnd rfl (by apply Bool.eq_iff_iff.2; (simp only [decide_eq_true_eq, Bool.false_eq_true, false_iff, true_iff, gt_iff_lt, ge_iff_le]) <;> omega) (by repeat (first | exact Sub.nil | refine Sub.cons rfl ?_))
   ·skip
    try simp only [hasB, isSizeB, Bool.not_eq_true', Bool.not_eq_false', bne_iff_ne, ne_eq, bne_eq_false_iff_eq, beq_iff_eq, beq_eq_false_iff_ne, decide_eq_true_eq, decide_eq_false_iff_not, gt_iff_lt, ge_iff_le] at h2
    refine At.no rfl rfl rfl rfl ?_
    refine At.no rfl rfl rfl rfl ?_
    refine At.val (Val.pickF rfl rfl) rfl rfl rfl ?_
    refine At.nil ?_
    exact At.boolEnd rfl (by apply Bool.eq_iff_iff.2; (simp only [decide_eq_true_eq, Bool.false_eq_true, false_iff, true_iff, gt_iff_lt, ge_iff_le]) <;> omega) (by repeat (first | exact Sub.nil | refine Sub.cons rfl ?_))
  ·skip
   simp only [List.drop_succ_cons, List.drop_zero]
   refine tE ?_
   refine At.cond rfl (fun h3 => ?_) (fun h3 => ?_)
   ·skip
    try simp only [hasB, isSizeB, Bool.not_eq_true', Bool.not_eq_false', bne_iff_ne, ne_eq, bne_eq_false_iff_eq, beq_iff_eq, beq_eq_false_iff_ne, decide_eq_true_eq, decide_eq_false_iff_not, gt_iff_lt, ge_iff_le] at h3
    refine At.skipC ?_
    refine At.thenN ?_
    refine At.seq ?_
    refine At.block ?_
    refine tR ?_
    refine tM rfl rfl ?_
    refine tM rfl rfl ?_
    cases hdb : deadB σ1
    ·skip
     refine At.callD 0 rfl (fun w hw hr => flush_d _ _ _ (64 * ((a / 64 : Nat) + j)) (8 * (a / 64 + j)) w (by omega) (by omega) (by omega) (by omega) hdb hr) Try.call32 rfl rfl (fun y4 => ?_)
     simp only [sc0, scS]
     refine tA rfl rfl ?_
     refine tE ?_
     refine tR ?_
     refine tM rfl rfl ?_
     refine At.val (Val.bin rfl rfl rfl) rfl rfl rfl ?_
     refine tE ?_
     refine At.condF rfl ?_
     refine At.skipC ?_
     refine At.blkN ?_
     refine At.thenN ?_
     refine At.region ?_
     refine tM rfl rfl ?_
     first | refine At.val (Val.addI rfl rfl (by omega) (by omega)) rfl rfl rfl ?_ | refine At.val (Val.bin rfl rfl rfl) rfl rfl rfl ?_
     refine tA rfl rfl ?_
     refine tE ?_
     exact At.again ((j + 1, lineD σ1 (a / 64 + j)), y4) ⟨(show j + 1 ≤ cnt by omega), (by rw [he, show cnt - j = (cnt - (j + 1)) + 1 by omega, linesE_live hdb]; rfl), (lineD_rest σ1 _).2.2.trans hl1, (show (lineD σ1 (a / 64 + j)).steps = σ.steps + (j + 1) by have := (lineD_rest σ1 (a / 64 + j)).1; omega)⟩ (by dsimp only; omega) (Sub.cons rfl (Sub.cons rfl (Sub.cons rfl (Sub.cons (congrArg (fun z => some (Value.int IntKind.i64 z)) (by dsimp only; omega)) Sub.nil)))) (List.Perm.refl _)
    ·skip
     refine At.callK 0 rfl (fun w hw hr => flush_0 _ _ _ _ w (by omega) (by omega) hdb hr) Try.call32 rfl rfl ?_
     refine tA rfl rfl ?_
     refine tE ?_
     refine tR ?_
     refine tM rfl rfl ?_
     refine At.val (Val.bin rfl rfl rfl) rfl rfl rfl ?_
     refine tE ?_
     refine At.condT rfl ?_
     refine tR ?_
     refine tM rfl rfl ?_
     refine tA rfl rfl ?_
     refine tE ?_
     refine At.retC ?_
     refine At.blkR ?_
     refine At.thenR ?_
     refine At.thenR ?_
     refine At.blkR ?_
     refine At.thenR ?_
     refine At.ret1 (.inl rfl) rfl rfl rfl (fun w hw => ?_)
     rw [he, show cnt - j = (cnt - j - 1) + 1 by omega, linesE_dead hdb]
     exact ⟨_, rfl, hw⟩
   ·skip
    try simp only [hasB, isSizeB, Bool.not_eq_true', Bool.not_eq_false', bne_iff_ne, ne_eq, bne_eq_false_iff_eq, beq_iff_eq, beq_eq_false_iff_ne, decide_eq_true_eq, decide_eq_false_iff_not, gt_iff_lt, ge_iff_le] at h3
    refine At.exitC ?_
    refine At.thenX ?_
    refine At.thenX ?_
    refine At.blkX ?_
    refine At.thenN ?_
    refine tR ?_
    refine tA rfl rfl ?_
    refine tE ?_
    refine At.retC ?_
    refine At.ret1 (.inl rfl) rfl rfl rfl (fun w hw => ?_)
    rw [he, show cnt - j = 0 by omega]
    exact ⟨_, rfl, hw⟩

theorem flushAll_no (p : Nat) (γ : Gh) (σ : Ds) (a n : Int) (w : World) (ha : hasB σ a n = false) (hd : (Dev p γ σ).holds w) :
    Upd Try.prog 40 [.pointer (some ⟨p, 0, none⟩), .int .i64 a, .int .i64 n] (Dev p γ σ) (.int .i64 11) (Dev p γ σ) w := by
 refine enterVc hd Try.func40 rfl Try.ntmps40 rfl ?_
 have hgd := Dev.good hd
 simp only [envOf]
 refine tR ?_
 refine tA rfl rfl ?_
 refine tE ?_
 refine At.seq ?_
 refine tR ?_
 refine tM rfl rfl ?_
 refine tM rfl rfl ?_
 refine tM rfl rfl ?_
 refine At.callK 0 rfl (fun w hw hr => has_k _ _ _ _ _ w hr) Try.call62 rfl rfl ?_
 refine At.val (Val.not rfl) rfl rfl rfl ?_
 refine tE ?_
 refine At.cond rfl (fun h1 => ?_) (fun h1 => ?_)
 ·skip
  refine tR ?_
  refine tA rfl rfl ?_
  refine tE ?_
  refine At.retC ?_
  refine At.thenR ?_
  refine At.ret1 (.inl rfl) rfl rfl rfl (fun w hw => ?_)
  exact ⟨rfl, hw⟩
 ·skip
  rw [ha] at h1; cases h1

theorem flushEach_d (p : Nat) (γ : Gh) (σ : Ds) (a n cnt : Nat) (w : World) (han : a + n ≤ 8 * σ.ws.length) (hct : cntP a n cnt) (hst : σ.steps + cnt ≤ 1099511627776) (hd : (Dev p γ σ).holds w) :
    DevU Try.prog 46 [.pointer (some ⟨p, 0, none⟩), .int .i64 (a : Int), .int .i64 (n : Int)] p γ σ (.int .i64 (linesE (a / 64) σ cnt).1) (linesE (a / 64) σ cnt).2 w := by
 refine enterVc hd Try.func46 rfl Try.ntmps46 rfl ?_
 have hgd := Dev.good hd
 have hln := hgd.len
 obtain ⟨hc0, hc1⟩ := hct
 simp only [envOf]
 refine tR ?_
 refine tA rfl rfl ?_
 refine tE ?_
 refine At.seq ?_
 refine tR ?_
 refine tM rfl rfl ?_
 first | refine At.val (Val.quoI rfl rfl (by omega) (by omega) (by decide)) rfl rfl rfl ?_ | refine At.val (Val.quo rfl rfl (by decide)) rfl rfl rfl ?_
 refine tA rfl rfl ?_
 refine tE ?_
 refine At.block ?_
 skip
 refine At.loop (σ := (Nat × Ds) × Gh) (fun s => s.1.1 ≤ cnt ∧ linesE (a / 64) σ cnt = linesE (a / 64 + s.1.1) s.1.2 (cnt - s.1.1) ∧ s.1.2.ws.length = σ.ws.length ∧ s.1.2.steps = σ.steps + s.1.1) (fun s => [(0, .pointer (some ⟨p, 0, none⟩)), (1, .int .i64 (a : Int)), (2, .int .i64 (n : Int)), (7, .int .i64 (((a / 64 : Nat) : Int) + (s.1.1 : Int)))]) (fun s => [Dev p s.2 s.1.2]) (fun s => cnt - s.1.1) ((0, σ), γ) ⟨Nat.zero_le _, rfl, rfl, rfl⟩ (Sub.cons rfl (Sub.cons rfl (Sub.cons rfl (Sub.cons (congrArg (fun z => some (Value.int IntKind.i64 z)) (by dsimp only; omega)) Sub.nil)))) (List.Perm.refl _) ?_
 intro s hs
 obtain ⟨⟨j, σ1⟩, γ1⟩ := s
 dsimp only at hs ⊢
 obtain ⟨hj, he, hl1, hs1⟩ := hs
 refine At.seq ?_
 refine tR ?_
 refine tM rfl rfl ?_
 refine At.val (Val.bin rfl rfl rfl) rfl rfl rfl ?_
 refine At.weaken [(0, _), (1, _), (2, _), (7, _), (12, _)] (Sub.cons rfl (Sub.cons rfl (Sub.cons rfl (Sub.cons rfl (Sub.cons rfl Sub.nil))))) ?_
 refine At.boolMeet 9 21 (decide (j < cnt)) ?_ ?_
 ·skip
  simp only [List.take_succ_cons, List.take_zero]
  refine tM rfl rfl ?_
  refine At.split (t := 13) rfl (fun h1 => ?_) (fun h1 => ?_)
  ·skip
   try simp only [hasB, isSizeB, Bool.not_eq_true', Bool.not_eq_false', bne_iff_ne, ne_eq, bne_eq_false_iff_eq, beq_iff_eq, beq_eq_false_iff_ne, decide_eq_true_eq, decide_eq_false_iff_not, gt_iff_lt, ge_iff_le] at h1
   refine At.yes rfl rfl ?_
   refine tM rfl rfl ?_
   refine At.yes rfl rfl ?_
   refine tM rfl rfl ?_
   refine At.yes rfl rfl ?_
   refine tM rfl rfl ?_
   refine At.yes rfl rfl ?_
   first | refine At.val (Val.addI rfl rfl (by omega) (by omega)) rfl rfl rfl ?_ | refine At.val (Val.bin rfl rfl rfl) rfl rfl rfl ?_
   refine At.yes rfl rfl ?_
   first | refine At.val (Val.subI rfl rfl (by omega) (by omega)) rfl rfl rfl ?_ | refine At.val (Val.bin rfl rfl rfl) rfl rfl rfl ?_
   refine At.yes rfl rfl ?_
   first | refine At.val (Val.quoI rfl rfl (by omega) (by omega) (by decide)) rfl rfl rfl ?_ | refine At.val (Val.quo rfl rfl (by decide)) rfl rfl rfl ?_
   refine At.yes rfl rfl ?_
   refine At.val (Val.bin rfl rfl rfl) rfl rfl rfl ?_
   refine At.val (Val.pickT rfl rfl) rfl rfl rfl ?_
   refine At.nil ?_
   exact At.boolEnd rfl (by apply Bool.eq_iff_iff.2; (simp only [decide_eq_true_eq, Bool.false_eq_true, false_iff, true_iff, gt_iff_lt, ge_iff_le]) <;> omega) (by repeat (first | exact Sub.nil | refine Sub.cons rfl ?_))
  ·skip
   try simp only [hasB, isSizeB, Bool.not_eq_true', Bool.not_eq_false', bne_iff_ne, ne_eq, bne_eq_false_iff_eq, beq_iff_eq, beq_eq_false_iff_ne, decide_eq_true_eq, decide_eq_false_iff_not, gt_iff_lt, ge_iff_le] at h1
   refine At.no rfl rfl rfl rfl ?_
   refine At.no rfl rfl rfl rfl ?_
   refine At.no rfl rfl rfl rfl ?_
   refine At.no rfl rfl rfl rfl ?_
   refine At.no rfl rfl rfl rfl ?_
   refine At.no rfl rfl rfl rfl ?_
   refine At.no rfl rfl rfl rfl ?_
   refine At.val (Val.pickF rfl rfl) rfl rfl rfl ?_
   refine At.nil ?_
   exact At.boolEnd rfl (by apply Bool.eq_iff_iff.2; (simp only [decide_eq_true_eq, Bool.false_eq_true, false_iff, true_iff, gt_iff_lt, ge_iff_le]) <;> omega) (by repeat (first | exact Sub.nil | refine Sub.cons rfl ?_))
 ·skip
  simp only [List.drop_succ_cons, List.drop_zero]
  refine tE ?_
  refine At.cond rfl (fun h2 => ?_) (fun h2 => ?_)
  ·skip
   try simp only [hasB, isSizeB, Bool.not_eq_true', Bool.not_eq_false', bne_iff_ne, ne_eq, bne_eq_false_iff_eq, beq_iff_eq, beq_eq_false_iff_ne, decide_eq_true_eq, decide_eq_false_iff_not, gt_iff_lt, ge_iff_le] at h2
   refine At.skipC ?_
   refine At.thenN ?_
   refine At.seq ?_
   refine At.block ?_
   refine tR ?_
   refine tM rfl rfl ?_
   refine tM rfl rfl ?_
   first | refine At.val (Val.mulI rfl rfl (by omega) (by omega)) rfl rfl rfl ?_ | refine At.val (Val.bin rfl rfl rfl) rfl rfl rfl ?_
   cases hdb : deadB σ1
   ·skip
    refine At.callD 0 rfl (fun w hw hr => flush_d _ _ _ (64 * ((a / 64 : Nat) + j)) (8 * (a / 64 + j)) w (by omega) (by omega) (by omega) (by omega) hdb hr) Try.call32 rfl rfl (fun y3 => ?_)
    simp only [sc0, scS]
    refine tA rfl rfl ?_
    refine tE ?_
    refine tR ?_
    refine tM rfl rfl ?_
    refine At.val (Val.bin rfl rfl rfl) rfl rfl rfl ?_
    refine tE ?_
    refine At.condF rfl ?_
    refine At.skipC ?_
    refine At.blkN ?_
    refine At.thenN ?_
    refine At.region ?_
    refine tM rfl rfl ?_
    first | refine At.val (Val.addI rfl rfl (by omega) (by omega)) rfl rfl rfl ?_ | refine At.val (Val.bin rfl rfl rfl) rfl rfl rfl ?_
    refine tA rfl rfl ?_
    refine tE ?_
    exact At.again ((j + 1, lineD σ1 (a / 64 + j)), y3) ⟨(show j + 1 ≤ cnt by omega), (by rw [he, show cnt - j = (cnt - (j + 1)) + 1 by omega, linesE_live hdb]; rfl), (lineD_rest σ1 _).2.2.trans hl1, (show (lineD σ1 (a / 64 + j)).steps = σ.steps + (j + 1) by have := (lineD_rest σ1 (a / 64 + j)).1; omega)⟩ (by dsimp only; omega) (Sub.cons rfl (Sub.cons rfl (Sub.cons rfl (Sub.cons (congrArg (fun z => some (Value.int IntKind.i64 z)) (by dsimp only; omega)) Sub.nil)))) (List.Perm.refl _)
   ·skip
    refine At.callK 0 rfl (fun w hw hr => flush_0 _ _ _ _ w (by omega) (by omega) hdb hr) Try.call32 rfl rfl ?_
    refine tA rfl rfl ?_
    refine tE ?_
    refine tR ?_
    refine tM rfl rfl ?_
    refine At.val (Val.bin rfl rfl rfl) rfl rfl rfl ?_
    refine tE ?_
    refine At.condT rfl ?_
    refine tR ?_
    refine tM rfl rfl ?_
    refine tA rfl rfl ?_
    refine tE ?_
    refine At.retC ?_
    refine At.blkR ?_
    refine At.thenR ?_
    refine At.thenR ?_
    refine At.blkR ?_
    refine At.thenR ?_
    refine At.ret1 (.inl rfl) rfl rfl rfl (fun w hw => ?_)
    rw [he, show cnt - j = (cnt - j - 1) + 1 by omega, linesE_dead hdb]
    exact ⟨_, rfl, hw⟩
  ·skip
   try simp only [hasB, isSizeB, Bool.not_eq_true', Bool.not_eq_false', bne_iff_ne, ne_eq, bne_eq_false_iff_eq, beq_iff_eq, beq_eq_false_iff_ne, decide_eq_true_eq, decide_eq_false_iff_not, gt_iff_lt, ge_iff_le] at h2
   refine At.exitC ?_
   refine At.thenX ?_
   refine At.thenX ?_
   refine At.blkX ?_
   refine At.thenN ?_
   refine tR ?_
   refine tA rfl rfl ?_
   refine tE ?_
   refine At.retC ?_
   refine At.ret1 (.inl rfl) rfl rfl rfl (fun w hw => ?_)
   rw [he, show cnt - j = 0 by omega]
   exact ⟨_, rfl, hw⟩

theorem storeEach_d (p : Nat) (γ : Gh) (σ : Ds) (k : Nat) (v : Value) (l : List (BitVec 64)) (w : World) (hv : RdW w v l) (ho : Off v (l.map b64) (feet [Dev p γ σ])) (hkl : k + l.length ≤ σ.ws.length) (hst : σ.steps + l.length ≤ 1099511627776) (hd : (Dev p γ σ).holds w) :
    DevU Try.prog 45 [.pointer (some ⟨p, 0, none⟩), .int .i64 (8 * (k : Int)), v] p γ σ (.int .i64 (storesE k σ l).1) (storesE k σ l).2 w := by
 refine enterVc hd Try.func45 rfl Try.ntmps45 rfl ?_
 have hgd := Dev.good hd
 have hln := hgd.len
 simp only [envOf]
 refine tR ?_
 refine tA rfl rfl ?_
 refine tE ?_
 refine At.seq ?_
 refine tR ?_
 refine tA rfl rfl ?_
 refine tE ?_
 refine At.block ?_
 skip
 refine At.loop (σ := (Nat × Ds) × Gh) (fun s => s.1.1 ≤ l.length ∧ storesE k σ l = storesE (k + s.1.1) s.1.2 (l.drop s.1.1) ∧ s.1.2.ws.length = σ.ws.length ∧ s.1.2.steps = σ.steps + s.1.1) (fun s => [(0, .pointer (some ⟨p, 0, none⟩)), (1, .int .i64 (8 * (k : Int))), (2, v), (7, .int .i64 (s.1.1 : Int))]) (fun s => [Dev p s.2 s.1.2]) (fun s => l.length - s.1.1) ((0, σ), γ) ⟨Nat.zero_le _, rfl, rfl, rfl⟩ (Sub.cons rfl (Sub.cons rfl (Sub.cons rfl (Sub.cons rfl Sub.nil)))) (List.Perm.refl _) ?_
 intro s hs
 obtain ⟨⟨j, σ1⟩, γ1⟩ := s
 dsimp only at hs ⊢
 obtain ⟨hj, he, hl1, hs1⟩ := hs
 refine At.seq ?_
 refine tR ?_
 refine tM rfl rfl ?_
 refine tM rfl rfl ?_
 refine At.val (Val.lenRd hv Try.underlying36 rfl) rfl rfl rfl ?_
 refine At.val (Val.bin rfl rfl rfl) rfl rfl rfl ?_
 refine tE ?_
 refine At.cond rfl (fun h1 => ?_) (fun h1 => ?_)
 ·skip
  try simp only [hasB, isSizeB, Bool.not_eq_true', Bool.not_eq_false', bne_iff_ne, ne_eq, bne_eq_false_iff_eq, beq_iff_eq, beq_eq_false_iff_ne, decide_eq_true_eq, decide_eq_false_iff_not, gt_iff_lt, ge_iff_le] at h1
  obtain ⟨x, hx⟩ : ∃ x, l[j]? = some x := ⟨_, List.getElem?_eq_getElem (by omega)⟩
  refine At.skipC ?_
  refine At.thenN ?_
  refine At.seq ?_
  refine At.block ?_
  refine tR ?_
  refine tM rfl rfl ?_
  refine tM rfl rfl ?_
  refine tM rfl rfl ?_
  first | refine At.val (Val.mulI rfl rfl (by omega) (by omega)) rfl rfl rfl ?_ | refine At.val (Val.bin rfl rfl rfl) rfl rfl rfl ?_
  first | refine At.val (Val.addI rfl rfl (by omega) (by omega)) rfl rfl rfl ?_ | refine At.val (Val.bin rfl rfl rfl) rfl rfl rfl ?_
  refine tM rfl rfl ?_
  refine tM rfl rfl ?_
  refine At.idxO hv ho Try.underlying36 Try.sizeOf30 rfl rfl hx rfl rfl (fun bx ox hcx hox => ?_)
  refine At.val (Val.loadOld Try.isAgg30 rfl hcx hox) rfl rfl rfl ?_
  obtain ⟨wd, hwd⟩ : ∃ wd, σ1.ws[k + j]? = some wd := ⟨_, List.getElem?_eq_getElem (by omega)⟩
  cases hdb : deadB σ1
  ·skip
   rw [show 8 * (k : Int) + 8 * (j : Int) = 8 * ((k + j : Nat) : Int) from by omega]
   refine At.callD 0 rfl (fun w hw hr => (storeD_some (x := x) hwd) ▸ store_d _ _ _ (k + j) wd x w hwd (by omega) hdb hr) Try.call31 rfl rfl (fun y2 => ?_)
   simp only [sc0, scS]
   refine tA rfl rfl ?_
   refine tE ?_
   refine tR ?_
   refine tM rfl rfl ?_
   refine At.val (Val.bin rfl rfl rfl) rfl rfl rfl ?_
   refine tE ?_
   refine At.condF rfl ?_
   refine At.skipC ?_
   refine At.blkN ?_
   refine At.thenN ?_
   refine At.region ?_
   refine tM rfl rfl ?_
   first | refine At.val (Val.addI rfl rfl (by omega) (by omega)) rfl rfl rfl ?_ | refine At.val (Val.bin rfl rfl rfl) rfl rfl rfl ?_
   refine tA rfl rfl ?_
   refine tE ?_
   exact At.again ((j + 1, storeD σ1 (k + j) x), y2) ⟨(show j + 1 ≤ l.length by omega), (by rw [he, drop_cons hx, storesE_live hdb]; rfl), (storeD_rest x (show k + j < σ1.ws.length by omega)).2.2.trans hl1, (show (storeD σ1 (k + j) x).steps = σ.steps + (j + 1) by have := (storeD_rest x (show k + j < σ1.ws.length by omega)).1; omega)⟩ (by dsimp only; omega) (Sub.cons rfl (Sub.cons rfl (Sub.cons rfl (Sub.cons (congrArg (fun z => some (Value.int IntKind.i64 z)) (by first | omega | (dsimp only; omega))) Sub.nil)))) (List.Perm.refl _)
  ·skip
   refine At.callK 0 rfl (fun w hw hr => store_0 _ _ _ _ _ w (place_at' (by omega) (by omega) (by omega)) hdb hr) Try.call31 rfl rfl ?_
   refine tA rfl rfl ?_
   refine tE ?_
   refine tR ?_
   refine tM rfl rfl ?_
   refine At.val (Val.bin rfl rfl rfl) rfl rfl rfl ?_
   refine tE ?_
   refine At.condT rfl ?_
   refine tR ?_
   refine tM rfl rfl ?_
   refine tA rfl rfl ?_
   refine tE ?_
   refine At.retC ?_
   refine At.blkR ?_
   refine At.thenR ?_
   refine At.thenR ?_
   refine At.blkR ?_
   refine At.thenR ?_
   refine At.ret1 (.inl rfl) rfl rfl rfl (fun w hw => ?_)
   rw [he, drop_cons hx, storesE_dead hdb]
   exact ⟨_, rfl, hw⟩
 ·skip
  try simp only [hasB, isSizeB, Bool.not_eq_true', Bool.not_eq_false', bne_iff_ne, ne_eq, bne_eq_false_iff_eq, beq_iff_eq, beq_eq_false_iff_ne, decide_eq_true_eq, decide_eq_false_iff_not, gt_iff_lt, ge_iff_le] at h1
  refine At.exitC ?_
  refine At.thenX ?_
  refine At.thenX ?_
  refine At.blkX ?_
  refine At.thenN ?_
  refine tR ?_
  refine tA rfl rfl ?_
  refine tE ?_
  refine At.retC ?_
  refine At.ret1 (.inl rfl) rfl rfl rfl (fun w hw => ?_)
  rw [he, List.drop_of_length_le (by omega)]
  exact ⟨_, rfl, hw⟩

end Go.Proofs.Ytkpbpeajkfgfiaa
