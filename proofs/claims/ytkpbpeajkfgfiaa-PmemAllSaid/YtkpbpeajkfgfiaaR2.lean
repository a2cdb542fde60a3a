/- The document's device: what a word is. -/
import Derived.Test.YtkpbpeajkfgfiaaR1
set_option linter.unusedVariables false
set_option linter.unusedSimpArgs false
namespace Go.Proofs.Ytkpbpeajkfgfiaa
open Go Go.Wk

/-- The time up to which a line is durable: its last flush ahead of the last fence. -/
def setF (F : Nat) (fl : List Nat) : Nat := fl.foldl (fun t x => if x < F then x else t) 0
theorem setF_snoc (F : Nat) (fl : List Nat) (x : Nat) : setF F (fl ++ [x]) = if x < F then x else setF F fl := by simp [setF]
def oldF (j t : Nat) (v0 : BitVec 64) (l : List (Nat × BitVec 64 × Nat)) : BitVec 64 := l.foldl (fun o c => if c.1 = j ∧ c.2.2 < t then c.2.1 else o) v0
def newsF (j t : Nat) (l : List (Nat × BitVec 64 × Nat)) : List (BitVec 64) := (l.filter fun c => decide (c.1 = j ∧ ¬ c.2.2 < t)).map (·.2.1)
def nowF (j : Nat) (v0 : BitVec 64) (l : List (Nat × BitVec 64 × Nat)) : BitVec 64 := l.foldl (fun o c => if c.1 = j then c.2.1 else o) v0
theorem oldF_snoc (j t : Nat) (v0 : BitVec 64) (l : List (Nat × BitVec 64 × Nat)) (c : Nat × BitVec 64 × Nat) : oldF j t v0 (l ++ [c]) = if c.1 = j ∧ c.2.2 < t then c.2.1 else oldF j t v0 l := by simp [oldF]
theorem nowF_snoc (j : Nat) (v0 : BitVec 64) (l : List (Nat × BitVec 64 × Nat)) (c : Nat × BitVec 64 × Nat) : nowF j v0 (l ++ [c]) = if c.1 = j then c.2.1 else nowF j v0 l := by simp [nowF]
theorem newsF_yes {j t : Nat} {l : List (Nat × BitVec 64 × Nat)} {c : Nat × BitVec 64 × Nat} (h1 : c.1 = j) (h2 : ¬ c.2.2 < t) : newsF j t (l ++ [c]) = newsF j t l ++ [c.2.1] := by
  unfold newsF
  rw [List.filter_append, List.map_append, List.filter_cons_of_pos (p := fun c : Nat × BitVec 64 × Nat => decide (c.1 = j ∧ ¬ c.2.2 < t)) (decide_eq_true ⟨h1, h2⟩), List.filter_nil]; rfl
theorem newsF_no {j t : Nat} {l : List (Nat × BitVec 64 × Nat)} {c : Nat × BitVec 64 × Nat} (h : ¬ (c.1 = j ∧ ¬ c.2.2 < t)) : newsF j t (l ++ [c]) = newsF j t l := by
  unfold newsF
  rw [List.filter_append, List.map_append, List.filter_cons_of_neg (by rw [decide_eq_false h]; simp), List.filter_nil]; exact List.append_nil _
theorem newsF_len (j t : Nat) (l : List (Nat × BitVec 64 × Nat)) : (newsF j t l).length ≤ l.length := by unfold newsF; rw [List.length_map]; exact List.length_filter_le _ _
theorem take_get {α : Type} {l : List α} {k : Nat} {x : α} (h : l[k]? = some x) : l.take (k + 1) = l.take k ++ [x] := by rw [List.take_add_one, h]; rfl
theorem fC_at {l : List Nat} {i x : Nat} (h : l[i]? = some x) : (fC l)[i]? = some (.int .i64 (x : Int)) := by unfold fC; rw [List.getElem?_map, h]; rfl
theorem line_at {Q : List Lq} {ls : List Rl} {k : Nat} {q : Lq} (hQ : Q.map Prod.fst = ls) (hq : Q[k]? = some q) : ls[k]? = some q.1 := by subst hQ; rw [List.getElem?_map, hq]; rfl

theorem settled_k (p : Nat) (γ : Rg) (ρ : Rs) (k : Nat) (l : Rl) (w : World) (hk : ρ.ls[k]? = some l) (hd : (RDev p γ ρ).holds w) :
    Upd Try.prog 124 [.pointer (some ⟨p, 0, none⟩), .int .i64 (k : Int)] (RDev p γ ρ) (.int .i64 ((setF ρ.fenced l.fl : Nat) : Int)) (RDev p γ ρ) w := by
 refine enterR hd Try.func124 rfl Try.ntmps124 rfl ?_
 unfold rdevL
 obtain ⟨hQ, hg⟩ := RDev.facts hd
 have hln := hg.len
 have hps := hg.pos
 have hnw := hg.now
 have h8 := first8_of hQ hg
 have hQl : γ.Q.length = ρ.ls.length := by rw [← hQ, List.length_map]
 have hkl := (List.getElem?_eq_some_iff.1 hk).1
 obtain ⟨q, hq⟩ : ∃ q, γ.Q[k]? = some q := ⟨_, List.getElem?_eq_getElem (by omega)⟩
 have hlq := line_at hQ hq
 obtain ⟨hg1, hg2, hg3, hg4, hg5⟩ := hg.line q.1 (List.mem_of_getElem? hlq)
 obtain rfl : l = q.1 := Option.some.inj (hk.symm.trans hlq)
 simp only [envOf]
 refine tR ?_
 refine tA rfl rfl ?_
 refine tE ?_
 refine tR ?_
 refine tA rfl rfl ?_
 refine tE ?_
 refine tR ?_
 refine tM rfl rfl ?_
 refine At.val (Val.nilCheck rfl) rfl rfl rfl ?_
 refine At.val (Val.field 0 rfl fo_134_0 rfl) rfl rfl rfl ?_
 refine At.val (Val.load (i := 0) Try.isAgg132 rfl rfl rfl) rfl rfl rfl ?_
 refine tM rfl rfl ?_
 refine At.val (Val.indexRow (i := 1) (k * 10) (by omega) Try.underlying132 Try.sizeOf155 rfl rfl rfl (by omega) (by omega)) rfl rfl rfl ?_
 refine At.val (Val.field ((k * 10 + 9)) rfl fo_155_2 rfl) rfl rfl rfl ?_
 refine At.val (Val.loadRow (i := 1) Try.isAgg23 rfl rfl (lC_fl h8 hq)) rfl rfl rfl ?_
 refine tA rfl rfl ?_
 refine tE ?_
 refine At.seq ?_
 refine tR ?_
 refine tA rfl rfl ?_
 refine tE ?_
 refine At.block ?_
 skip
 refine At.loop (σ := Nat) (fun i => i ≤ q.1.fl.length) (fun i => [(0, .pointer (some ⟨p, 0, none⟩)), (5, .int .i64 ((setF ρ.fenced (q.1.fl.take i) : Nat) : Int)), (6, q.2.2), (7, .int .i64 (i : Int))]) (fun i => [blk p 134 ([γ.vl, .int .i64 (ρ.fenced : Int), .int .i64 (ρ.now : Int), .int .i64 ρ.left]), rowR γ.vl 155 10 (γ.Q.length) (lC γ.Q), fam (lI γ.Q), factR (γ.Q.map Prod.fst = ρ.ls ∧ Rgood ρ)]) (fun i => q.1.fl.length - i) 0 (Nat.zero_le _) (Sub.cons rfl (Sub.cons rfl (Sub.cons rfl (Sub.cons rfl Sub.nil)))) (List.Perm.refl _) ?_
 intro i hs
 refine At.seq ?_
 refine tR ?_
 refine tM rfl rfl ?_
 refine tM rfl rfl ?_
 refine At.val (Val.lenO (fam_fls (i := 2) rfl hq) (by decide) Try.underlying23 rfl) rfl rfl rfl ?_
 refine At.val (Val.bin rfl rfl rfl) rfl rfl rfl ?_
 refine tE ?_
 refine At.cond rfl (fun h1 => ?_) (fun h1 => ?_)
 ·skip
  try simp only [hasB, isSizeB, Bool.not_eq_true', Bool.not_eq_false', bne_iff_ne, ne_eq, bne_eq_false_iff_eq, beq_iff_eq, beq_eq_false_iff_ne, decide_eq_true_eq, decide_eq_false_iff_not, gt_iff_lt, ge_iff_le] at h1
  obtain ⟨x, hx⟩ : ∃ x, q.1.fl[i]? = some x := ⟨_, List.getElem?_eq_getElem (by omega)⟩
  refine At.skipC ?_
  refine At.thenN ?_
  refine At.seq ?_
  refine At.block ?_
  refine At.seq ?_
  refine At.quiet rfl (by decide +kernel) ?_
  refine qM rfl rfl ?_
  refine qM rfl rfl ?_
  refine QAt.val (Val.indexO (fam_fls (i := 2) rfl hq) i (by omega) Try.underlying23 Try.sizeOf3 rfl rfl (by omega) (by omega)) rfl rfl rfl ?_
  refine QAt.val (Val.loadO (fam_fls (i := 2) rfl hq) Try.isAgg3 rfl (fC_at hx)) rfl rfl rfl ?_
  refine qM rfl rfl ?_
  refine QAt.val (Val.nilCheck rfl) rfl rfl rfl ?_
  refine QAt.val (Val.field 1 rfl fo_134_1 rfl) rfl rfl rfl ?_
  refine QAt.val (Val.load (i := 0) Try.isAgg3 rfl rfl rfl) rfl rfl rfl ?_
  refine QAt.val (Val.bin rfl rfl rfl) rfl rfl rfl ?_
  refine QAt.fin ?_
  refine At.thenN ?_
  refine At.cond rfl (fun h2 => ?_) (fun h2 => ?_)
  ·skip
   try simp only [hasB, isSizeB, Bool.not_eq_true', Bool.not_eq_false', bne_iff_ne, ne_eq, bne_eq_false_iff_eq, beq_iff_eq, beq_eq_false_iff_ne, decide_eq_true_eq, decide_eq_false_iff_not, gt_iff_lt, ge_iff_le] at h2
   refine At.region ?_
   refine tM rfl rfl ?_
   refine tM rfl rfl ?_
   refine At.val (Val.indexO (fam_fls (i := 2) rfl hq) i (by omega) Try.underlying23 Try.sizeOf3 rfl rfl (by omega) (by omega)) rfl rfl rfl ?_
   refine At.val (Val.loadO (fam_fls (i := 2) rfl hq) Try.isAgg3 rfl (fC_at hx)) rfl rfl rfl ?_
   refine tA rfl rfl ?_
   refine At.nil ?_
   refine At.blkN ?_
   refine At.thenN ?_
   refine At.region ?_
   refine tM rfl rfl ?_
   first | refine At.val (Val.addI rfl rfl (by omega) (by omega)) rfl rfl rfl ?_ | refine At.val (Val.bin rfl rfl rfl) rfl rfl rfl ?_
   refine tA rfl rfl ?_
   refine tE ?_
   exact At.again (i + 1) (show i + 1 ≤ _ by omega) (by omega) (Sub.cons rfl (Sub.cons (congrArg (fun z => some (Value.int IntKind.i64 z)) (by rw [take_get hx, setF_snoc, if_pos (by omega)])) (Sub.cons rfl (Sub.cons (congrArg (fun z => some (Value.int IntKind.i64 z)) (by omega)) Sub.nil)))) (List.Perm.refl _)
  ·skip
   try simp only [hasB, isSizeB, Bool.not_eq_true', Bool.not_eq_false', bne_iff_ne, ne_eq, bne_eq_false_iff_eq, beq_iff_eq, beq_eq_false_iff_ne, decide_eq_true_eq, decide_eq_false_iff_not, gt_iff_lt, ge_iff_le] at h2
   refine At.skipC ?_
   refine At.blkN ?_
   refine At.thenN ?_
   refine At.region ?_
   refine tM rfl rfl ?_
   first | refine At.val (Val.addI rfl rfl (by omega) (by omega)) rfl rfl rfl ?_ | refine At.val (Val.bin rfl rfl rfl) rfl rfl rfl ?_
   refine tA rfl rfl ?_
   refine tE ?_
   exact At.again (i + 1) (show i + 1 ≤ _ by omega) (by omega) (Sub.cons rfl (Sub.cons (congrArg (fun z => some (Value.int IntKind.i64 z)) (by rw [take_get hx, setF_snoc, if_neg (by omega)])) (Sub.cons rfl (Sub.cons (congrArg (fun z => some (Value.int IntKind.i64 z)) (by omega)) Sub.nil)))) (List.Perm.refl _)
 ·skip
  try simp only [hasB, isSizeB, Bool.not_eq_true', Bool.not_eq_false', bne_iff_ne, ne_eq, bne_eq_false_iff_eq, beq_iff_eq, beq_eq_false_iff_ne, decide_eq_true_eq, decide_eq_false_iff_not, gt_iff_lt, ge_iff_le] at h1
  refine At.exitC ?_
  refine At.thenX ?_
  refine At.thenX ?_
  refine At.blkX ?_
  refine At.thenN ?_
  refine tR ?_
  refine tM rfl rfl ?_
  refine tA rfl rfl ?_
  refine tE ?_
  refine At.retC ?_
  refine At.ret1 (.inl rfl) rfl rfl rfl (fun w hw => ?_)
  exact ⟨by rw [List.take_of_length_le (by omega)], retR (F := []) hw⟩

theorem rnow_k (p : Nat) (γ : Rg) (ρ : Rs) (k j : Nat) (l : Rl) (v0 : BitVec 64) (w : World) (hk : ρ.ls[k]? = some l) (hj : j < 8) (hv0 : l.first[j]? = some v0) (hd : (RDev p γ ρ).holds w) :
    Upd Try.prog 115 [.pointer (some ⟨p, 0, none⟩), .int .i64 (8 * ((8 * k + j : Nat) : Int))] (RDev p γ ρ) (b64 (nowF j v0 l.puts)) (RDev p γ ρ) w := by
 refine enterR hd Try.func115 rfl Try.ntmps115 rfl ?_
 unfold rdevL
 obtain ⟨hQ, hg⟩ := RDev.facts hd
 have hln := hg.len
 have hps := hg.pos
 have hnw := hg.now
 have h8 := first8_of hQ hg
 have hQl : γ.Q.length = ρ.ls.length := by rw [← hQ, List.length_map]
 have hkl := (List.getElem?_eq_some_iff.1 hk).1
 obtain ⟨q, hq⟩ : ∃ q, γ.Q[k]? = some q := ⟨_, List.getElem?_eq_getElem (by omega)⟩
 have hlq := line_at hQ hq
 obtain ⟨hg1, hg2, hg3, hg4, hg5⟩ := hg.line q.1 (List.mem_of_getElem? hlq)
 obtain rfl : l = q.1 := Option.some.inj (hk.symm.trans hlq)
 simp only [envOf]
 refine tR ?_
 refine tA rfl rfl ?_
 refine tE ?_
 refine tR ?_
 refine tM rfl rfl ?_
 refine At.val (Val.quoI rfl rfl (by omega) (by omega) (by decide)) rfl rfl rfl ?_
 rw [show 8 * ((8 * k + j : Nat) : Int) / 8 = ((8 * k + j : Nat) : Int) from by omega]
 refine At.val (Val.remI rfl rfl (by omega) (by decide)) rfl rfl rfl ?_
 rw [show ((8 * k + j : Nat) : Int) % 8 = (j : Int) from by omega]
 refine tA rfl rfl ?_
 refine tE ?_
 refine tR ?_
 refine tM rfl rfl ?_
 refine At.val (Val.nilCheck rfl) rfl rfl rfl ?_
 refine At.val (Val.field 0 rfl fo_134_0 rfl) rfl rfl rfl ?_
 refine At.val (Val.load (i := 0) Try.isAgg132 rfl rfl rfl) rfl rfl rfl ?_
 refine tM rfl rfl ?_
 refine At.val (Val.quoI rfl rfl (by omega) (by omega) (by decide)) rfl rfl rfl ?_
 rw [show 8 * ((8 * k + j : Nat) : Int) / 64 = (k : Int) from by omega]
 refine tM rfl rfl ?_
 refine At.val (Val.indexRow (i := 1) (k * 10) (by omega) Try.underlying132 Try.sizeOf155 rfl rfl rfl (by omega) (by omega)) rfl rfl rfl ?_
 refine At.val (Val.field ((k * 10 + 0)) rfl fo_155_0 rfl) rfl rfl rfl ?_
 refine At.val (Val.indexArr (k * 10 + j) (by omega) Try.underlying152 Try.sizeOf30 rfl rfl (by omega) (by omega)) rfl rfl rfl ?_
 refine At.val (Val.loadRow (i := 1) Try.isAgg30 rfl rfl (lC_first h8 hq hv0)) rfl rfl rfl ?_
 refine tA rfl rfl ?_
 refine tE ?_
 refine tR ?_
 refine tM rfl rfl ?_
 refine At.val (Val.nilCheck rfl) rfl rfl rfl ?_
 refine At.val (Val.field 0 rfl fo_134_0 rfl) rfl rfl rfl ?_
 refine At.val (Val.load (i := 0) Try.isAgg132 rfl rfl rfl) rfl rfl rfl ?_
 refine tM rfl rfl ?_
 refine At.val (Val.quoI rfl rfl (by omega) (by omega) (by decide)) rfl rfl rfl ?_
 rw [show 8 * ((8 * k + j : Nat) : Int) / 64 = (k : Int) from by omega]
 refine At.val (Val.indexRow (i := 1) (k * 10) (by omega) Try.underlying132 Try.sizeOf155 rfl rfl rfl (by omega) (by omega)) rfl rfl rfl ?_
 refine At.val (Val.field ((k * 10 + 8)) rfl fo_155_1 rfl) rfl rfl rfl ?_
 refine At.val (Val.loadRow (i := 1) Try.isAgg153 rfl rfl (lC_puts h8 hq)) rfl rfl rfl ?_
 refine tA rfl rfl ?_
 refine tE ?_
 refine At.seq ?_
 refine tR ?_
 refine tA rfl rfl ?_
 refine tE ?_
 refine At.block ?_
 skip
 refine At.loop (σ := Nat) (fun i => i ≤ q.1.puts.length) (fun i => [(0, .pointer (some ⟨p, 0, none⟩)), (5, .int .i64 (j : Int)), (7, q.2.1), (8, .int .i64 (i : Int)), (6, b64 (nowF j v0 (q.1.puts.take i)))]) (fun i => [blk p 134 ([γ.vl, .int .i64 (ρ.fenced : Int), .int .i64 (ρ.now : Int), .int .i64 ρ.left]), rowR γ.vl 155 10 (γ.Q.length) (lC γ.Q), fam (lI γ.Q), factR (γ.Q.map Prod.fst = ρ.ls ∧ Rgood ρ)]) (fun i => q.1.puts.length - i) 0 (Nat.zero_le _) (Sub.cons rfl (Sub.cons rfl (Sub.cons rfl (Sub.cons rfl (Sub.cons rfl Sub.nil))))) (List.Perm.refl _) ?_
 intro i hs
 refine At.seq ?_
 refine tR ?_
 refine tM rfl rfl ?_
 refine tM rfl rfl ?_
 refine At.val (Val.lenO (fam_puts (i := 2) rfl hq) (by decide) Try.underlying153 rfl) rfl rfl rfl ?_
 refine At.val (Val.bin rfl rfl rfl) rfl rfl rfl ?_
 refine tE ?_
 refine At.cond rfl (fun h1 => ?_) (fun h1 => ?_)
 ·skip
  try simp only [hasB, isSizeB, Bool.not_eq_true', Bool.not_eq_false', bne_iff_ne, ne_eq, bne_eq_false_iff_eq, beq_iff_eq, beq_eq_false_iff_ne, decide_eq_true_eq, decide_eq_false_iff_not, gt_iff_lt, ge_iff_le] at h1
  obtain ⟨x, hx⟩ : ∃ x, q.1.puts[i]? = some x := ⟨_, List.getElem?_eq_getElem (by omega)⟩
  refine At.skipC ?_
  refine At.thenN ?_
  refine At.seq ?_
  refine At.block ?_
  refine tR ?_
  refine tM rfl rfl ?_
  refine tM rfl rfl ?_
  refine At.val (Val.indexO (fam_puts (i := 2) rfl hq) (i * 3) (by omega) Try.underlying153 Try.sizeOf158 rfl rfl (by omega) (by omega)) rfl rfl rfl ?_
  refine At.val (Val.field ((i * 3 + 0)) rfl fo_158_0 rfl) rfl rfl rfl ?_
  refine At.val (Val.loadO (fam_puts (i := 2) rfl hq) Try.isAgg3 rfl (pC_at (i := 0) hx rfl)) rfl rfl rfl ?_
  refine tM rfl rfl ?_
  refine At.val (Val.bin rfl rfl rfl) rfl rfl rfl ?_
  refine tE ?_
  refine At.cond rfl (fun h2 => ?_) (fun h2 => ?_)
  ·skip
   try simp only [hasB, isSizeB, Bool.not_eq_true', Bool.not_eq_false', bne_iff_ne, ne_eq, bne_eq_false_iff_eq, beq_iff_eq, beq_eq_false_iff_ne, decide_eq_true_eq, decide_eq_false_iff_not, gt_iff_lt, ge_iff_le] at h2
   refine At.region ?_
   refine tM rfl rfl ?_
   refine tM rfl rfl ?_
   refine At.val (Val.indexO (fam_puts (i := 2) rfl hq) (i * 3) (by omega) Try.underlying153 Try.sizeOf158 rfl rfl (by omega) (by omega)) rfl rfl rfl ?_
   refine At.val (Val.field ((i * 3 + 1)) rfl fo_158_1 rfl) rfl rfl rfl ?_
   refine At.val (Val.loadO (fam_puts (i := 2) rfl hq) Try.isAgg30 rfl (pC_at (i := 1) hx rfl)) rfl rfl rfl ?_
   refine tA rfl rfl ?_
   refine At.nil ?_
   refine At.blkN ?_
   refine At.thenN ?_
   refine At.region ?_
   refine tM rfl rfl ?_
   first | refine At.val (Val.addI rfl rfl (by omega) (by omega)) rfl rfl rfl ?_ | refine At.val (Val.bin rfl rfl rfl) rfl rfl rfl ?_
   refine tA rfl rfl ?_
   refine tE ?_
   exact At.again (i + 1) (show i + 1 ≤ _ by omega) (by omega) (Sub.cons rfl (Sub.cons rfl (Sub.cons rfl (Sub.cons (congrArg (fun z => some (Value.int IntKind.i64 z)) (by omega)) (Sub.cons (congrArg (fun z : BitVec 64 => some (b64 z)) (by rw [take_get hx, nowF_snoc, if_pos (by omega)])) Sub.nil))))) (List.Perm.refl _)
  ·skip
   try simp only [hasB, isSizeB, Bool.not_eq_true', Bool.not_eq_false', bne_iff_ne, ne_eq, bne_eq_false_iff_eq, beq_iff_eq, beq_eq_false_iff_ne, decide_eq_true_eq, decide_eq_false_iff_not, gt_iff_lt, ge_iff_le] at h2
   refine At.skipC ?_
   refine At.blkN ?_
   refine At.thenN ?_
   refine At.region ?_
   refine tM rfl rfl ?_
   first | refine At.val (Val.addI rfl rfl (by omega) (by omega)) rfl rfl rfl ?_ | refine At.val (Val.bin rfl rfl rfl) rfl rfl rfl ?_
   refine tA rfl rfl ?_
   refine tE ?_
   exact At.again (i + 1) (show i + 1 ≤ _ by omega) (by omega) (Sub.cons rfl (Sub.cons rfl (Sub.cons rfl (Sub.cons (congrArg (fun z => some (Value.int IntKind.i64 z)) (by omega)) (Sub.cons (congrArg (fun z : BitVec 64 => some (b64 z)) (by rw [take_get hx, nowF_snoc, if_neg (by omega)])) Sub.nil))))) (List.Perm.refl _)
 ·skip
  try simp only [hasB, isSizeB, Bool.not_eq_true', Bool.not_eq_false', bne_iff_ne, ne_eq, bne_eq_false_iff_eq, beq_iff_eq, beq_eq_false_iff_ne, decide_eq_true_eq, decide_eq_false_iff_not, gt_iff_lt, ge_iff_le] at h1
  refine At.exitC ?_
  refine At.thenX ?_
  refine At.thenX ?_
  refine At.blkX ?_
  refine At.thenN ?_
  refine tR ?_
  refine tM rfl rfl ?_
  refine tA rfl rfl ?_
  refine tE ?_
  refine At.retC ?_
  refine At.ret1 (.inl rfl) rfl rfl rfl (fun w hw => ?_)
  exact ⟨by rw [List.take_of_length_le (by omega)], retR (F := []) hw⟩

theorem rword_k (p : Nat) (γ : Rg) (ρ : Rs) (k j : Nat) (l : Rl) (v0 : BitVec 64) (w : World) (hk : ρ.ls[k]? = some l) (hj : j < 8) (hv0 : l.first[j]? = some v0) (hd : (RDev p γ ρ).holds w) :
    RowKT Try.prog 111 [.pointer (some ⟨p, 0, none⟩), .int .i64 (8 * ((8 * k + j : Nat) : Int))] (RDev p γ ρ) (fun v' => .tuple #[b64 (oldF j (setF ρ.fenced l.fl) v0 l.puts), v']) tW 1 (newsF j (setF ρ.fenced l.fl) l.puts).length ((newsF j (setF ρ.fenced l.fl) l.puts).map b64) w := by
 refine enterR hd Try.func111 rfl Try.ntmps111 rfl ?_
 unfold rdevL
 obtain ⟨hQ, hg⟩ := RDev.facts hd
 have hln := hg.len
 have hps := hg.pos
 have hnw := hg.now
 have h8 := first8_of hQ hg
 have hQl : γ.Q.length = ρ.ls.length := by rw [← hQ, List.length_map]
 have hkl := (List.getElem?_eq_some_iff.1 hk).1
 obtain ⟨q, hq⟩ : ∃ q, γ.Q[k]? = some q := ⟨_, List.getElem?_eq_getElem (by omega)⟩
 have hlq := line_at hQ hq
 obtain ⟨hg1, hg2, hg3, hg4, hg5⟩ := hg.line q.1 (List.mem_of_getElem? hlq)
 obtain rfl : l = q.1 := Option.some.inj (hk.symm.trans hlq)
 simp only [envOf]
 refine tR ?_
 refine tA rfl rfl ?_
 refine tA rfl rfl ?_
 refine tE ?_
 refine tR ?_
 refine tM rfl rfl ?_
 refine At.val (Val.quoI rfl rfl (by omega) (by omega) (by decide)) rfl rfl rfl ?_
 rw [show 8 * ((8 * k + j : Nat) : Int) / 8 = ((8 * k + j : Nat) : Int) from by omega]
 refine At.val (Val.remI rfl rfl (by omega) (by decide)) rfl rfl rfl ?_
 rw [show ((8 * k + j : Nat) : Int) % 8 = (j : Int) from by omega]
 refine tA rfl rfl ?_
 refine tE ?_
 refine tR ?_
 refine tM rfl rfl ?_
 refine At.val (Val.nilCheck rfl) rfl rfl rfl ?_
 refine At.val (Val.field 0 rfl fo_134_0 rfl) rfl rfl rfl ?_
 refine At.val (Val.load (i := 0) Try.isAgg132 rfl rfl rfl) rfl rfl rfl ?_
 refine tM rfl rfl ?_
 refine At.val (Val.quoI rfl rfl (by omega) (by omega) (by decide)) rfl rfl rfl ?_
 rw [show 8 * ((8 * k + j : Nat) : Int) / 64 = (k : Int) from by omega]
 refine tM rfl rfl ?_
 refine At.val (Val.indexRow (i := 1) (k * 10) (by omega) Try.underlying132 Try.sizeOf155 rfl rfl rfl (by omega) (by omega)) rfl rfl rfl ?_
 refine At.val (Val.field ((k * 10 + 0)) rfl fo_155_0 rfl) rfl rfl rfl ?_
 refine At.val (Val.indexArr (k * 10 + j) (by omega) Try.underlying152 Try.sizeOf30 rfl rfl (by omega) (by omega)) rfl rfl rfl ?_
 refine At.val (Val.loadRow (i := 1) Try.isAgg30 rfl rfl (lC_first h8 hq hv0)) rfl rfl rfl ?_
 refine tA rfl rfl ?_
 refine tE ?_
 refine tR ?_
 refine tM rfl rfl ?_
 refine At.val (Val.nilCheck rfl) rfl rfl rfl ?_
 refine At.val (Val.field 0 rfl fo_134_0 rfl) rfl rfl rfl ?_
 refine At.val (Val.load (i := 0) Try.isAgg132 rfl rfl rfl) rfl rfl rfl ?_
 refine tM rfl rfl ?_
 refine At.val (Val.quoI rfl rfl (by omega) (by omega) (by decide)) rfl rfl rfl ?_
 rw [show 8 * ((8 * k + j : Nat) : Int) / 64 = (k : Int) from by omega]
 refine At.val (Val.indexRow (i := 1) (k * 10) (by omega) Try.underlying132 Try.sizeOf155 rfl rfl rfl (by omega) (by omega)) rfl rfl rfl ?_
 refine At.val (Val.field ((k * 10 + 8)) rfl fo_155_1 rfl) rfl rfl rfl ?_
 refine At.val (Val.loadRow (i := 1) Try.isAgg153 rfl rfl (lC_puts h8 hq)) rfl rfl rfl ?_
 refine tA rfl rfl ?_
 refine tE ?_
 refine At.seq ?_
 refine tR ?_
 refine tM rfl rfl ?_
 refine At.val (Val.lenO (fam_puts (i := 2) rfl hq) (by decide) Try.underlying153 rfl) rfl rfl rfl ?_
 refine At.val (Val.bin rfl rfl rfl) rfl rfl rfl ?_
 refine tE ?_
 refine At.cond rfl (fun h1 => ?_) (fun h1 => ?_)
 ·skip
  try simp only [hasB, isSizeB, Bool.not_eq_true', Bool.not_eq_false', bne_iff_ne, ne_eq, bne_eq_false_iff_eq, beq_iff_eq, beq_eq_false_iff_ne, decide_eq_true_eq, decide_eq_false_iff_not, gt_iff_lt, ge_iff_le] at h1
  refine tR ?_
  refine tM rfl rfl ?_
  refine tA rfl rfl ?_
  refine tA rfl rfl ?_
  refine tE ?_
  refine At.retC ?_
  refine At.thenR ?_
  refine At.ret2 (.inl rfl) rfl rfl rfl rfl (fun w hw => ?_)
  have hp0 : q.1.puts = [] := List.eq_nil_of_length_eq_zero (by omega)
  rw [hp0]
  exact ⟨_, rfl, retRR (F := []) (hw.new (r' := wrow tW (.slice none 0 0) []) (Mod.refl _ _) (World.ownsRow_nil _ 0 _ _) (fun b hb => by simp [rowR, Value.ownBlock] at hb))⟩
 ·skip
  try simp only [hasB, isSizeB, Bool.not_eq_true', Bool.not_eq_false', bne_iff_ne, ne_eq, bne_eq_false_iff_eq, beq_iff_eq, beq_eq_false_iff_ne, decide_eq_true_eq, decide_eq_false_iff_not, gt_iff_lt, ge_iff_le] at h1
  refine At.skipC ?_
  refine At.thenN ?_
  refine tR ?_
  refine tM rfl rfl ?_
  refine tM rfl rfl ?_
  refine At.val (Val.quoI rfl rfl (by omega) (by omega) (by decide)) rfl rfl rfl ?_
  rw [show 8 * ((8 * k + j : Nat) : Int) / 64 = (k : Int) from by omega]
  refine At.callKS (rdevL p γ ρ) rfl (fun w hw hr => settled_k _ _ _ k q.1 w hk hr) Try.call124 rfl rfl ?_
  refine tA rfl rfl ?_
  refine tE ?_
  refine tR ?_
  refine tA rfl rfl ?_
  refine At.nil ?_
  refine At.rowNilW 30 ?_
  refine At.thenN ?_
  refine At.seq ?_
  refine tR ?_
  refine tA rfl rfl ?_
  refine tE ?_
  refine At.block ?_
  skip
  refine At.loop (σ := Nat × Value) (fun s => s.1 ≤ q.1.puts.length) (fun s => [(0, .pointer (some ⟨p, 0, none⟩)), (6, .int .i64 (j : Int)), (7, b64 (oldF j (setF ρ.fenced q.1.fl) v0 (q.1.puts.take s.1))), (8, q.2.1), (9, .int .i64 (((setF ρ.fenced q.1.fl) : Nat) : Int)), (10, s.2), (11, .int .i64 (s.1 : Int))]) (fun s => [wrow tW s.2 (newsF j (setF ρ.fenced q.1.fl) (q.1.puts.take s.1)), blk p 134 ([γ.vl, .int .i64 (ρ.fenced : Int), .int .i64 (ρ.now : Int), .int .i64 ρ.left]), rowR γ.vl 155 10 (γ.Q.length) (lC γ.Q), fam (lI γ.Q), factR (γ.Q.map Prod.fst = ρ.ls ∧ Rgood ρ)]) (fun s => q.1.puts.length - s.1) (0, .slice none 0 0) (Nat.zero_le _) (Sub.cons rfl (Sub.cons rfl (Sub.cons rfl (Sub.cons rfl (Sub.cons rfl (Sub.cons rfl (Sub.cons rfl Sub.nil))))))) (List.Perm.refl _) ?_
  intro s hs
  obtain ⟨i, vr⟩ := s
  dsimp only at hs ⊢
  have hnl := newsF_len j (setF ρ.fenced q.1.fl) (q.1.puts.take i)
  rw [List.length_take] at hnl
  refine At.seq ?_
  refine tR ?_
  refine tM rfl rfl ?_
  refine tM rfl rfl ?_
  refine At.val (Val.lenO (fam_puts (i := 3) rfl hq) (by decide) Try.underlying153 rfl) rfl rfl rfl ?_
  refine At.val (Val.bin rfl rfl rfl) rfl rfl rfl ?_
  refine tE ?_
  refine At.cond rfl (fun h2 => ?_) (fun h2 => ?_)
  ·skip
   try simp only [hasB, isSizeB, Bool.not_eq_true', Bool.not_eq_false', bne_iff_ne, ne_eq, bne_eq_false_iff_eq, beq_iff_eq, beq_eq_false_iff_ne, decide_eq_true_eq, decide_eq_false_iff_not, gt_iff_lt, ge_iff_le] at h2
   obtain ⟨x, hx⟩ : ∃ x, q.1.puts[i]? = some x := ⟨_, List.getElem?_eq_getElem (by omega)⟩
   refine At.skipC ?_
   refine At.thenN ?_
   refine At.seq ?_
   refine At.block ?_
   refine tR ?_
   refine tM rfl rfl ?_
   refine tM rfl rfl ?_
   refine At.val (Val.indexO (fam_puts (i := 3) rfl hq) (i * 3) (by omega) Try.underlying153 Try.sizeOf158 rfl rfl (by omega) (by omega)) rfl rfl rfl ?_
   refine At.val (Val.field ((i * 3 + 0)) rfl fo_158_0 rfl) rfl rfl rfl ?_
   refine At.val (Val.loadO (fam_puts (i := 3) rfl hq) Try.isAgg3 rfl (pC_at (i := 0) hx rfl)) rfl rfl rfl ?_
   refine At.weaken [(0, _), (6, _), (7, _), (8, _), (9, _), (10, _), (11, _), (43, _), (44, _), (45, _), (46, _), (53, _)] (Sub.cons rfl (Sub.cons rfl (Sub.cons rfl (Sub.cons rfl (Sub.cons rfl (Sub.cons rfl (Sub.cons rfl (Sub.cons rfl (Sub.cons rfl (Sub.cons rfl (Sub.cons rfl (Sub.cons rfl Sub.nil)))))))))))) ?_
   refine At.boolMeet 11 64 (decide (x.1 = j ∧ x.2.2 < (setF ρ.fenced q.1.fl))) ?_ ?_
   ·skip
    simp only [List.take_succ_cons, List.take_zero]
    refine tM rfl rfl ?_
    refine At.val (Val.bin rfl rfl rfl) rfl rfl rfl ?_
    refine tM rfl rfl ?_
    refine At.split (t := 56) rfl (fun h3 => ?_) (fun h3 => ?_)
    ·skip
     try simp only [hasB, isSizeB, Bool.not_eq_true', Bool.not_eq_false', bne_iff_ne, ne_eq, bne_eq_false_iff_eq, beq_iff_eq, beq_eq_false_iff_ne, decide_eq_true_eq, decide_eq_false_iff_not, gt_iff_lt, ge_iff_le] at h3
     refine At.yes rfl rfl ?_
     refine tM rfl rfl ?_
     refine At.yes rfl rfl ?_
     refine tM rfl rfl ?_
     refine At.yes rfl rfl ?_
     refine At.val (Val.indexO (fam_puts (i := 3) rfl hq) (i * 3) (by omega) Try.underlying153 Try.sizeOf158 rfl rfl (by omega) (by omega)) rfl rfl rfl ?_
     refine At.yes rfl rfl ?_
     refine At.val (Val.field ((i * 3 + 2)) rfl fo_158_2 rfl) rfl rfl rfl ?_
     refine At.yes rfl rfl ?_
     refine At.val (Val.loadO (fam_puts (i := 3) rfl hq) Try.isAgg3 rfl (pC_at (i := 2) hx rfl)) rfl rfl rfl ?_
     refine At.yes rfl rfl ?_
     refine tM rfl rfl ?_
     refine At.yes rfl rfl ?_
     refine At.val (Val.bin rfl rfl rfl) rfl rfl rfl ?_
     refine At.val (Val.pickT rfl rfl) rfl rfl rfl ?_
     refine At.nil ?_
     exact At.boolEnd rfl (by apply Bool.eq_iff_iff.2; (simp only [decide_eq_true_eq, Bool.false_eq_true, false_iff, true_iff, gt_iff_lt, ge_iff_le]) <;> omega) (by repeat (first | exact Sub.nil | refine Sub.cons rfl ?_))
    ·skip
     try simp only [hasB, isSizeB, Bool.not_eq_true', Bool.not_eq_false', bne_iff_ne, ne_eq, bne_eq_false_iff_eq, beq_iff_eq, beq_eq_false_iff_ne, decide_eq_true_eq, decide_eq_false_iff_not, gt_iff_lt, ge_iff_le] at h3
     refine At.no rfl rfl rfl rfl ?_
     refine At.no rfl rfl rfl rfl ?_
     refine At.no rfl rfl rfl rfl ?_
     refine At.no rfl rfl rfl rfl ?_
     refine At.no rfl rfl rfl rfl ?_
     refine At.no rfl rfl rfl rfl ?_
     refine At.no rfl rfl rfl rfl ?_
     refine At.val (Val.pickF rfl rfl) rfl rfl rfl ?_
     refine At.nil ?_
     exact At.boolEnd rfl (by apply Bool.eq_iff_iff.2; (simp only [decide_eq_true_eq, Bool.false_eq_true, false_iff, true_iff, gt_iff_lt, ge_iff_le]) <;> omega) (by repeat (first | exact Sub.nil | refine Sub.cons rfl ?_))
   ·skip
    simp only [List.drop_succ_cons, List.drop_zero]
    refine tE ?_
    refine At.cond rfl (fun h4 => ?_) (fun h4 => ?_)
    ·skip
     try simp only [hasB, isSizeB, Bool.not_eq_true', Bool.not_eq_false', bne_iff_ne, ne_eq, bne_eq_false_iff_eq, beq_iff_eq, beq_eq_false_iff_ne, decide_eq_true_eq, decide_eq_false_iff_not, gt_iff_lt, ge_iff_le] at h4
     refine At.region ?_
     refine tM rfl rfl ?_
     refine tM rfl rfl ?_
     refine At.val (Val.indexO (fam_puts (i := 3) rfl hq) (i * 3) (by omega) Try.underlying153 Try.sizeOf158 rfl rfl (by omega) (by omega)) rfl rfl rfl ?_
     refine At.val (Val.field ((i * 3 + 1)) rfl fo_158_1 rfl) rfl rfl rfl ?_
     refine At.val (Val.loadO (fam_puts (i := 3) rfl hq) Try.isAgg30 rfl (pC_at (i := 1) hx rfl)) rfl rfl rfl ?_
     refine tA rfl rfl ?_
     refine At.nil ?_
     refine At.blkN ?_
     refine At.thenN ?_
     refine At.region ?_
     refine tM rfl rfl ?_
     first | refine At.val (Val.addI rfl rfl (by omega) (by omega)) rfl rfl rfl ?_ | refine At.val (Val.bin rfl rfl rfl) rfl rfl rfl ?_
     refine tA rfl rfl ?_
     refine tE ?_
     exact At.again (i + 1, vr) (show i + 1 ≤ _ by omega) (by dsimp only; omega) (Sub.cons rfl (Sub.cons rfl (Sub.cons (congrArg (fun z : BitVec 64 => some (b64 z)) (by rw [take_get hx, oldF_snoc, if_pos (by omega)])) (Sub.cons rfl (Sub.cons rfl (Sub.cons rfl (Sub.cons (congrArg (fun z => some (Value.int IntKind.i64 z)) (by omega)) Sub.nil))))))) (by dsimp only; rw [take_get hx, newsF_no (by omega)])
    ·skip
     try simp only [hasB, isSizeB, Bool.not_eq_true', Bool.not_eq_false', bne_iff_ne, ne_eq, bne_eq_false_iff_eq, beq_iff_eq, beq_eq_false_iff_ne, decide_eq_true_eq, decide_eq_false_iff_not, gt_iff_lt, ge_iff_le] at h4
     refine tR ?_
     refine tM rfl rfl ?_
     refine tM rfl rfl ?_
     refine At.val (Val.indexO (fam_puts (i := 3) rfl hq) (i * 3) (by omega) Try.underlying153 Try.sizeOf158 rfl rfl (by omega) (by omega)) rfl rfl rfl ?_
     refine At.val (Val.field ((i * 3 + 0)) rfl fo_158_0 rfl) rfl rfl rfl ?_
     refine At.val (Val.loadO (fam_puts (i := 3) rfl hq) Try.isAgg3 rfl (pC_at (i := 0) hx rfl)) rfl rfl rfl ?_
     refine tM rfl rfl ?_
     refine At.val (Val.bin rfl rfl rfl) rfl rfl rfl ?_
     refine tE ?_
     refine At.cond rfl (fun h5 => ?_) (fun h5 => ?_)
     ·skip
      try simp only [hasB, isSizeB, Bool.not_eq_true', Bool.not_eq_false', bne_iff_ne, ne_eq, bne_eq_false_iff_eq, beq_iff_eq, beq_eq_false_iff_ne, decide_eq_true_eq, decide_eq_false_iff_not, gt_iff_lt, ge_iff_le] at h5
      refine At.region ?_
      refine tM rfl rfl ?_
      refine tM rfl rfl ?_
      refine tM rfl rfl ?_
      refine At.val (Val.indexO (fam_puts (i := 3) rfl hq) (i * 3) (by omega) Try.underlying153 Try.sizeOf158 rfl rfl (by omega) (by omega)) rfl rfl rfl ?_
      refine At.val (Val.field ((i * 3 + 1)) rfl fo_158_1 rfl) rfl rfl rfl ?_
      refine At.val (Val.loadO (fam_puts (i := 3) rfl hq) Try.isAgg30 rfl (pC_at (i := 1) hx rfl)) rfl rfl rfl ?_
      refine At.buildSl (fun a ha => by simp only [List.map_toArray, List.map_cons, List.map_nil, ha.eval (x := (.tmp 82)) rfl]; try rfl) (bs_36_1 _ ) rfl (fun b6 => ?_)
      refine At.appendWs (i := 1) (j := 0) (ms := [x.2.1]) (by_ := 8) Try.underlying36 info_30 rfl rfl rfl rfl rfl rfl rfl rfl rfl (by omega) (by omega) rfl (fun v7 => ?_)
      simp only [sc0, scS]
      refine At.drop 0 ?_
      simp only [ec0, ecS]
      refine tA rfl rfl ?_
      refine At.nil ?_
      refine At.blkN ?_
      refine At.thenN ?_
      refine At.region ?_
      refine tM rfl rfl ?_
      first | refine At.val (Val.addI rfl rfl (by omega) (by omega)) rfl rfl rfl ?_ | refine At.val (Val.bin rfl rfl rfl) rfl rfl rfl ?_
      refine tA rfl rfl ?_
      refine tE ?_
      exact At.again (i + 1, v7) (show i + 1 ≤ _ by omega) (by dsimp only; omega) (Sub.cons rfl (Sub.cons rfl (Sub.cons (congrArg (fun z : BitVec 64 => some (b64 z)) (by rw [take_get hx, oldF_snoc, if_neg (by omega)])) (Sub.cons rfl (Sub.cons rfl (Sub.cons rfl (Sub.cons (congrArg (fun z => some (Value.int IntKind.i64 z)) (by omega)) Sub.nil))))))) (by dsimp only; rw [take_get hx, newsF_yes (by omega) (by omega)])
     ·skip
      try simp only [hasB, isSizeB, Bool.not_eq_true', Bool.not_eq_false', bne_iff_ne, ne_eq, bne_eq_false_iff_eq, beq_iff_eq, beq_eq_false_iff_ne, decide_eq_true_eq, decide_eq_false_iff_not, gt_iff_lt, ge_iff_le] at h5
      refine At.skipC ?_
      refine At.blkN ?_
      refine At.thenN ?_
      refine At.region ?_
      refine tM rfl rfl ?_
      first | refine At.val (Val.addI rfl rfl (by omega) (by omega)) rfl rfl rfl ?_ | refine At.val (Val.bin rfl rfl rfl) rfl rfl rfl ?_
      refine tA rfl rfl ?_
      refine tE ?_
      exact At.again (i + 1, vr) (show i + 1 ≤ _ by omega) (by dsimp only; omega) (Sub.cons rfl (Sub.cons rfl (Sub.cons (congrArg (fun z : BitVec 64 => some (b64 z)) (by rw [take_get hx, oldF_snoc, if_neg (by omega)])) (Sub.cons rfl (Sub.cons rfl (Sub.cons rfl (Sub.cons (congrArg (fun z => some (Value.int IntKind.i64 z)) (by omega)) Sub.nil))))))) (by dsimp only; rw [take_get hx, newsF_no (by omega)])
  ·skip
   try simp only [hasB, isSizeB, Bool.not_eq_true', Bool.not_eq_false', bne_iff_ne, ne_eq, bne_eq_false_iff_eq, beq_iff_eq, beq_eq_false_iff_ne, decide_eq_true_eq, decide_eq_false_iff_not, gt_iff_lt, ge_iff_le] at h2
   refine At.exitC ?_
   refine At.thenX ?_
   refine At.thenX ?_
   refine At.blkX ?_
   refine At.thenN ?_
   refine tR ?_
   refine tM rfl rfl ?_
   refine tM rfl rfl ?_
   refine tA rfl rfl ?_
   refine tA rfl rfl ?_
   refine tE ?_
   refine At.retC ?_
   refine At.ret2 (.inl rfl) rfl rfl rfl rfl (fun w hw => ?_)
   rw [List.take_of_length_le (by omega)] at hw ⊢
   exact ⟨_, rfl, retRR (F := []) hw⟩

end Go.Proofs.Ytkpbpeajkfgfiaa
