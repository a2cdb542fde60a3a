/- Parts of the proof, joined: see the law's text. -/
import Derived.Test.YthhkbbodhghmcaaGreatDoorY4
import Derived.Test.YthhkbbodhghmcaaGreatDoorY3
import Derived.Test.YthhkbbodhghmcaaGreatDoorY1
import Derived.Test.YthhkbbodhghmcaaGreatDoorY2
set_option linter.unusedVariables false
set_option linter.unusedSimpArgs false
namespace Go.Proofs.YthhkbbodhghmcaaGreatDoor
open Go Go.Wk
/-- The time up to which a line is durable: its last flush ahead of the last fence. -/
def setF (F : Nat) (fl : List Nat) : Nat := fl.foldl (fun t x => if x < F then x else t) 0
theorem setF_snoc (F : Nat) (fl : List Nat) (x : Nat) : setF F (fl ++ [x]) = if x < F then x else setF F fl := by simp [setF]
def oldF (j t : Nat) (v0 : BitVec 64) (l : List (Nat × BitVec 64 × Nat)) : BitVec 64 := l.foldl (fun o c => if c.1 = j ∧ c.2.2 < t then c.2.1 else o) v0
def newsF (j t : Nat) (l : List (Nat × BitVec 64 × Nat)) : List (BitVec 64) := (l.filter fun c => decide (c.1 = j ∧ ¬ c.2.2 < t)).map (·.2.1)
def nowF (j : Nat) (v0 : BitVec 64) (l : List (Nat × BitVec 64 × Nat)) : BitVec 64 := l.foldl (fun o c => if c.1 = j then c.2.1 else o) v0
theorem oldF_snoc (j t : Nat) (v0 : BitVec 64) (l : List (Nat × BitVec 64 × Nat)) (c : Nat × BitVec 64 × Nat) : oldF j t v0 (l ++ [c]) = if c.1 = j ∧ c.2.2 < t then c.2.1 else oldF j t v0 l := by simp [oldF]
theorem nowF_snoc (j : Nat) (v0 : BitVec 64) (l : List (Nat × BitVec 64 × Nat)) (c : Nat × BitVec 64 × Nat) : nowF j v0 (l ++ [c]) = if c.1 = j then c.2.1 else nowF j v0 l := by simp [nowF]
theorem newsF_yes {j t : Nat} {l : List (Nat × BitVec 64 × Nat)} {c : Nat × BitVec 64 × Nat} (h1 : c.1 = j) (h2 : ¬ c.2.2 < t) : newsF j t (l ++ [c]) = newsF j t l ++ [c.2.1] := by
  unfold newsF
  rw [List.filter_append, List.map_append, List.filter_cons_of_pos (p := fun c : Nat × BitVec 64 × Nat => decide (c.1 = j ∧ ¬ c.2.2 < t)) (decide_eq_true ⟨h1, h2⟩), List.filter_nil]; rfl
theorem newsF_no {j t : Nat} {l : List (Nat × BitVec 64 × Nat)} {c : Nat × BitVec 64 × Nat} (h : ¬ (c.1 = j ∧ ¬ c.2.2 < t)) : newsF j t (l ++ [c]) = newsF j t l := by
  unfold newsF
  rw [List.filter_append, List.map_append, List.filter_cons_of_neg (by rw [decide_eq_false h]; simp), List.filter_nil]; exact List.append_nil _
theorem newsF_len (j t : Nat) (l : List (Nat × BitVec 64 × Nat)) : (newsF j t l).length ≤ l.length := by unfold newsF; rw [List.length_map]; exact List.length_filter_le _ _
theorem take_get {α : Type} {l : List α} {k : Nat} {x : α} (h : l[k]? = some x) : l.take (k + 1) = l.take k ++ [x] := by rw [List.take_add_one, h]; rfl
theorem fC_at {l : List Nat} {i x : Nat} (h : l[i]? = some x) : (fC l)[i]? = some (.int .i64 (x : Int)) := by unfold fC; rw [List.getElem?_map, h]; rfl
theorem line_at {Q : List Lq} {ls : List Rl} {k : Nat} {q : Lq} (hQ : Q.map Prod.fst = ls) (hq : Q[k]? = some q) : ls[k]? = some q.1 := by subst hQ; rw [List.getElem?_map, hq]; rfl
theorem settled_k (p : Nat) (γ : Rg) (ρ : Rs) (k : Nat) (l : Rl) (w : World) (hk : ρ.ls[k]? = some l) (hd : (RDev p γ ρ).holds w) :
    Upd Tryz.prog 98 [.pointer (some ⟨p, 0, none⟩), .int .i64 (k : Int)] (RDev p γ ρ) (.int .i64 ((setF ρ.fenced l.fl : Nat) : Int)) (RDev p γ ρ) w := by
 refine enterR hd Tryz.func98 rfl Tryz.ntmps98 rfl ?_
 unfold rdevL
 obtain ⟨hQ, hg⟩ := RDev.facts hd
 have hln := hg.len
 have hps := hg.pos
 have hnw := hg.now
 have h8 := first8_of hQ hg
 have hQl : γ.Q.length = ρ.ls.length := by rw [← hQ, List.length_map]
 have hkl := (List.getElem?_eq_some_iff.1 hk).1
 obtain ⟨q, hq⟩ : ∃ q, γ.Q[k]? = some q := ⟨_, List.getElem?_eq_getElem (by omega)⟩
 have hlq := line_at hQ hq
 obtain ⟨hg1, hg2, hg3, hg4, hg5⟩ := hg.line q.1 (List.mem_of_getElem? hlq)
 obtain rfl : l = q.1 := Option.some.inj (hk.symm.trans hlq)
 simp only [envOf]
 refine tR ?_
 refine tA rfl rfl ?_
 refine tE ?_
 refine tR ?_
 refine tA rfl rfl ?_
 refine tE ?_
 refine tR ?_
 refine tM rfl rfl ?_
 refine At.val (Val.nilCheck rfl) rfl rfl rfl ?_
 refine At.val (Val.field 0 rfl fo_50_0 rfl) rfl rfl rfl ?_
 refine At.val (Val.load (i := 0) Tryz.isAgg48 rfl rfl rfl) rfl rfl rfl ?_
 refine tM rfl rfl ?_
 refine At.val (Val.indexRow (i := 1) (k * 10) (by omega) Tryz.underlying48 Tryz.sizeOf118 rfl rfl rfl (by omega) (by omega)) rfl rfl rfl ?_
 refine At.val (Val.field ((k * 10 + 9)) rfl fo_118_2 rfl) rfl rfl rfl ?_
 refine At.val (Val.loadRow (i := 1) Tryz.isAgg36 rfl rfl (lC_fl h8 hq)) rfl rfl rfl ?_
 refine tA rfl rfl ?_
 refine tE ?_
 refine At.seq ?_
 refine tR ?_
 refine tA rfl rfl ?_
 refine tE ?_
 refine At.block ?_
 skip
 refine At.loop (σ := Nat) (fun i => i ≤ q.1.fl.length) (fun i => [(0, .pointer (some ⟨p, 0, none⟩)), (5, .int .i64 ((setF ρ.fenced (q.1.fl.take i) : Nat) : Int)), (6, q.2.2), (7, .int .i64 (i : Int))]) (fun i => [blk p 50 ([γ.vl, .int .i64 (ρ.fenced : Int), .int .i64 (ρ.now : Int), .int .i64 ρ.left]), rowR γ.vl 118 10 (γ.Q.length) (lC γ.Q), fam (lI γ.Q), factR (γ.Q.map Prod.fst = ρ.ls ∧ Rgood ρ)]) (fun i => q.1.fl.length - i) 0 (Nat.zero_le _) (Sub.cons rfl (Sub.cons rfl (Sub.cons rfl (Sub.cons rfl Sub.nil)))) (List.Perm.refl _) ?_
 intro i hs
 refine At.seq ?_
 refine tR ?_
 refine tM rfl rfl ?_
 refine tM rfl rfl ?_
 refine At.val (Val.lenO (fam_fls (i := 2) rfl hq) (by decide) Tryz.underlying36 rfl) rfl rfl rfl ?_
 refine At.val (Val.bin rfl rfl rfl) rfl rfl rfl ?_
 refine tE ?_
 refine At.cond rfl (fun h1 => ?_) (fun h1 => ?_)
 ·skip
  try simp only [hasB, isSizeB, Bool.not_eq_true', Bool.not_eq_false', bne_iff_ne, ne_eq, bne_eq_false_iff_eq, beq_iff_eq, beq_eq_false_iff_ne, decide_eq_true_eq, decide_eq_false_iff_not, gt_iff_lt, ge_iff_le] at h1
  obtain ⟨x, hx⟩ : ∃ x, q.1.fl[i]? = some x := ⟨_, List.getElem?_eq_getElem (by omega)⟩
  refine At.skipC ?_
  refine At.thenN ?_
  refine At.seq ?_
  refine At.block ?_
  refine At.seq ?_
  refine At.quiet rfl (by decide +kernel) ?_
  refine qM rfl rfl ?_
  refine qM rfl rfl ?_
  refine QAt.val (Val.indexO (fam_fls (i := 2) rfl hq) i (by omega) Tryz.underlying36 Tryz.sizeOf3 rfl rfl (by omega) (by omega)) rfl rfl rfl ?_
  refine QAt.val (Val.loadO (fam_fls (i := 2) rfl hq) Tryz.isAgg3 rfl (fC_at hx)) rfl rfl rfl ?_
  refine qM rfl rfl ?_
  refine QAt.val (Val.nilCheck rfl) rfl rfl rfl ?_
  refine QAt.val (Val.field 1 rfl fo_50_1 rfl) rfl rfl rfl ?_
  refine QAt.val (Val.load (i := 0) Tryz.isAgg3 rfl rfl rfl) rfl rfl rfl ?_
  refine QAt.val (Val.bin rfl rfl rfl) rfl rfl rfl ?_
  refine QAt.fin ?_
  refine At.thenN ?_
  refine At.cond rfl (fun h2 => ?_) (fun h2 => ?_)
  ·skip
   try simp only [hasB, isSizeB, Bool.not_eq_true', Bool.not_eq_false', bne_iff_ne, ne_eq, bne_eq_false_iff_eq, beq_iff_eq, beq_eq_false_iff_ne, decide_eq_true_eq, decide_eq_false_iff_not, gt_iff_lt, ge_iff_le] at h2
   refine At.region ?_
   refine tM rfl rfl ?_
   refine tM rfl rfl ?_
   refine At.val (Val.indexO (fam_fls (i := 2) rfl hq) i (by omega) Tryz.underlying36 Tryz.sizeOf3 rfl rfl (by omega) (by omega)) rfl rfl rfl ?_
   refine At.val (Val.loadO (fam_fls (i := 2) rfl hq) Tryz.isAgg3 rfl (fC_at hx)) rfl rfl rfl ?_
   refine tA rfl rfl ?_
   refine At.nil ?_
   refine At.blkN ?_
   refine At.thenN ?_
   refine At.region ?_
   refine tM rfl rfl ?_
   first | refine At.val (Val.addI rfl rfl (by omega) (by omega)) rfl rfl rfl ?_ | refine At.val (Val.bin rfl rfl rfl) rfl rfl rfl ?_
   refine tA rfl rfl ?_
   refine tE ?_
   exact At.again (i + 1) (show i + 1 ≤ _ by omega) (by omega) (Sub.cons rfl (Sub.cons (congrArg (fun z => some (Value.int IntKind.i64 z)) (by rw [take_get hx, setF_snoc, if_pos (by omega)])) (Sub.cons rfl (Sub.cons (congrArg (fun z => some (Value.int IntKind.i64 z)) (by omega)) Sub.nil)))) (List.Perm.refl _)
  ·skip
   try simp only [hasB, isSizeB, Bool.not_eq_true', Bool.not_eq_false', bne_iff_ne, ne_eq, bne_eq_false_iff_eq, beq_iff_eq, beq_eq_false_iff_ne, decide_eq_true_eq, decide_eq_false_iff_not, gt_iff_lt, ge_iff_le] at h2
   refine At.skipC ?_
   refine At.blkN ?_
   refine At.thenN ?_
   refine At.region ?_
   refine tM rfl rfl ?_
   first | refine At.val (Val.addI rfl rfl (by omega) (by omega)) rfl rfl rfl ?_ | refine At.val (Val.bin rfl rfl rfl) rfl rfl rfl ?_
   refine tA rfl rfl ?_
   refine tE ?_
   exact At.again (i + 1) (show i + 1 ≤ _ by omega) (by omega) (Sub.cons rfl (Sub.cons (congrArg (fun z => some (Value.int IntKind.i64 z)) (by rw [take_get hx, setF_snoc, if_neg (by omega)])) (Sub.cons rfl (Sub.cons (congrArg (fun z => some (Value.int IntKind.i64 z)) (by omega)) Sub.nil)))) (List.Perm.refl _)
 ·skip
  try simp only [hasB, isSizeB, Bool.not_eq_true', Bool.not_eq_false', bne_iff_ne, ne_eq, bne_eq_false_iff_eq, beq_iff_eq, beq_eq_false_iff_ne, decide_eq_true_eq, decide_eq_false_iff_not, gt_iff_lt, ge_iff_le] at h1
  refine At.exitC ?_
  refine At.thenX ?_
  refine At.thenX ?_
  refine At.blkX ?_
  refine At.thenN ?_
  refine tR ?_
  refine tM rfl rfl ?_
  refine tA rfl rfl ?_
  refine tE ?_
  refine At.retC ?_
  refine At.ret1 (.inl rfl) rfl rfl rfl (fun w hw => ?_)
  exact ⟨by rw [List.take_of_length_le (by omega)], retR (F := []) hw⟩
theorem rnow_k (p : Nat) (γ : Rg) (ρ : Rs) (k j : Nat) (l : Rl) (v0 : BitVec 64) (w : World) (hk : ρ.ls[k]? = some l) (hj : j < 8) (hv0 : l.first[j]? = some v0) (hd : (RDev p γ ρ).holds w) :
    Upd Tryz.prog 62 [.pointer (some ⟨p, 0, none⟩), .int .i64 (8 * ((8 * k + j : Nat) : Int))] (RDev p γ ρ) (b64 (nowF j v0 l.puts)) (RDev p γ ρ) w := by
 refine enterR hd Tryz.func62 rfl Tryz.ntmps62 rfl ?_
 unfold rdevL
 obtain ⟨hQ, hg⟩ := RDev.facts hd
 have hln := hg.len
 have hps := hg.pos
 have hnw := hg.now
 have h8 := first8_of hQ hg
 have hQl : γ.Q.length = ρ.ls.length := by rw [← hQ, List.length_map]
 have hkl := (List.getElem?_eq_some_iff.1 hk).1
 obtain ⟨q, hq⟩ : ∃ q, γ.Q[k]? = some q := ⟨_, List.getElem?_eq_getElem (by omega)⟩
 have hlq := line_at hQ hq
 obtain ⟨hg1, hg2, hg3, hg4, hg5⟩ := hg.line q.1 (List.mem_of_getElem? hlq)
 obtain rfl : l = q.1 := Option.some.inj (hk.symm.trans hlq)
 simp only [envOf]
 refine tR ?_
 refine tA rfl rfl ?_
 refine tE ?_
 refine tR ?_
 refine tM rfl rfl ?_
 refine At.val (Val.quoI rfl rfl (by omega) (by omega) (by decide)) rfl rfl rfl ?_
 rw [show 8 * ((8 * k + j : Nat) : Int) / 8 = ((8 * k + j : Nat) : Int) from by omega]
 refine At.val (Val.remI rfl rfl (by omega) (by decide)) rfl rfl rfl ?_
 rw [show ((8 * k + j : Nat) : Int) % 8 = (j : Int) from by omega]
 refine tA rfl rfl ?_
 refine tE ?_
 refine tR ?_
 refine tM rfl rfl ?_
 refine At.val (Val.nilCheck rfl) rfl rfl rfl ?_
 refine At.val (Val.field 0 rfl fo_50_0 rfl) rfl rfl rfl ?_
 refine At.val (Val.load (i := 0) Tryz.isAgg48 rfl rfl rfl) rfl rfl rfl ?_
 refine tM rfl rfl ?_
 refine At.val (Val.quoI rfl rfl (by omega) (by omega) (by decide)) rfl rfl rfl ?_
 rw [show 8 * ((8 * k + j : Nat) : Int) / 64 = (k : Int) from by omega]
 refine tM rfl rfl ?_
 refine At.val (Val.indexRow (i := 1) (k * 10) (by omega) Tryz.underlying48 Tryz.sizeOf118 rfl rfl rfl (by omega) (by omega)) rfl rfl rfl ?_
 refine At.val (Val.field ((k * 10 + 0)) rfl fo_118_0 rfl) rfl rfl rfl ?_
 refine At.val (Val.indexArr (k * 10 + j) (by omega) Tryz.underlying115 Tryz.sizeOf32 rfl rfl (by omega) (by omega)) rfl rfl rfl ?_
 refine At.val (Val.loadRow (i := 1) Tryz.isAgg32 rfl rfl (lC_first h8 hq hv0)) rfl rfl rfl ?_
 refine tA rfl rfl ?_
 refine tE ?_
 refine tR ?_
 refine tM rfl rfl ?_
 refine At.val (Val.nilCheck rfl) rfl rfl rfl ?_
 refine At.val (Val.field 0 rfl fo_50_0 rfl) rfl rfl rfl ?_
 refine At.val (Val.load (i := 0) Tryz.isAgg48 rfl rfl rfl) rfl rfl rfl ?_
 refine tM rfl rfl ?_
 refine At.val (Val.quoI rfl rfl (by omega) (by omega) (by decide)) rfl rfl rfl ?_
 rw [show 8 * ((8 * k + j : Nat) : Int) / 64 = (k : Int) from by omega]
 refine At.val (Val.indexRow (i := 1) (k * 10) (by omega) Tryz.underlying48 Tryz.sizeOf118 rfl rfl rfl (by omega) (by omega)) rfl rfl rfl ?_
 refine At.val (Val.field ((k * 10 + 8)) rfl fo_118_1 rfl) rfl rfl rfl ?_
 refine At.val (Val.loadRow (i := 1) Tryz.isAgg116 rfl rfl (lC_puts h8 hq)) rfl rfl rfl ?_
 refine tA rfl rfl ?_
 refine tE ?_
 refine At.seq ?_
 refine tR ?_
 refine tA rfl rfl ?_
 refine tE ?_
 refine At.block ?_
 skip
 refine At.loop (σ := Nat) (fun i => i ≤ q.1.puts.length) (fun i => [(0, .pointer (some ⟨p, 0, none⟩)), (5, .int .i64 (j : Int)), (7, q.2.1), (8, .int .i64 (i : Int)), (6, b64 (nowF j v0 (q.1.puts.take i)))]) (fun i => [blk p 50 ([γ.vl, .int .i64 (ρ.fenced : Int), .int .i64 (ρ.now : Int), .int .i64 ρ.left]), rowR γ.vl 118 10 (γ.Q.length) (lC γ.Q), fam (lI γ.Q), factR (γ.Q.map Prod.fst = ρ.ls ∧ Rgood ρ)]) (fun i => q.1.puts.length - i) 0 (Nat.zero_le _) (Sub.cons rfl (Sub.cons rfl (Sub.cons rfl (Sub.cons rfl (Sub.cons rfl Sub.nil))))) (List.Perm.refl _) ?_
 intro i hs
 refine At.seq ?_
 refine tR ?_
 refine tM rfl rfl ?_
 refine tM rfl rfl ?_
 refine At.val (Val.lenO (fam_puts (i := 2) rfl hq) (by decide) Tryz.underlying116 rfl) rfl rfl rfl ?_
 refine At.val (Val.bin rfl rfl rfl) rfl rfl rfl ?_
 refine tE ?_
 refine At.cond rfl (fun h1 => ?_) (fun h1 => ?_)
 ·skip
  try simp only [hasB, isSizeB, Bool.not_eq_true', Bool.not_eq_false', bne_iff_ne, ne_eq, bne_eq_false_iff_eq, beq_iff_eq, beq_eq_false_iff_ne, decide_eq_true_eq, decide_eq_false_iff_not, gt_iff_lt, ge_iff_le] at h1
  obtain ⟨x, hx⟩ : ∃ x, q.1.puts[i]? = some x := ⟨_, List.getElem?_eq_getElem (by omega)⟩
  refine At.skipC ?_
  refine At.thenN ?_
  refine At.seq ?_
  refine At.block ?_
  refine tR ?_
  refine tM rfl rfl ?_
  refine tM rfl rfl ?_
  refine At.val (Val.indexO (fam_puts (i := 2) rfl hq) (i * 3) (by omega) Tryz.underlying116 Tryz.sizeOf120 rfl rfl (by omega) (by omega)) rfl rfl rfl ?_
  refine At.val (Val.field ((i * 3 + 0)) rfl fo_120_0 rfl) rfl rfl rfl ?_
  refine At.val (Val.loadO (fam_puts (i := 2) rfl hq) Tryz.isAgg3 rfl (pC_at (i := 0) hx rfl)) rfl rfl rfl ?_
  refine tM rfl rfl ?_
  refine At.val (Val.bin rfl rfl rfl) rfl rfl rfl ?_
  refine tE ?_
  refine At.cond rfl (fun h2 => ?_) (fun h2 => ?_)
  ·skip
   try simp only [hasB, isSizeB, Bool.not_eq_true', Bool.not_eq_false', bne_iff_ne, ne_eq, bne_eq_false_iff_eq, beq_iff_eq, beq_eq_false_iff_ne, decide_eq_true_eq, decide_eq_false_iff_not, gt_iff_lt, ge_iff_le] at h2
   refine At.region ?_
   refine tM rfl rfl ?_
   refine tM rfl rfl ?_
   refine At.val (Val.indexO (fam_puts (i := 2) rfl hq) (i * 3) (by omega) Tryz.underlying116 Tryz.sizeOf120 rfl rfl (by omega) (by omega)) rfl rfl rfl ?_
   refine At.val (Val.field ((i * 3 + 1)) rfl fo_120_1 rfl) rfl rfl rfl ?_
   refine At.val (Val.loadO (fam_puts (i := 2) rfl hq) Tryz.isAgg32 rfl (pC_at (i := 1) hx rfl)) rfl rfl rfl ?_
   refine tA rfl rfl ?_
   refine At.nil ?_
   refine At.blkN ?_
   refine At.thenN ?_
   refine At.region ?_
   refine tM rfl rfl ?_
   first | refine At.val (Val.addI rfl rfl (by omega) (by omega)) rfl rfl rfl ?_ | refine At.val (Val.bin rfl rfl rfl) rfl rfl rfl ?_
   refine tA rfl rfl ?_
   refine tE ?_
   exact At.again (i + 1) (show i + 1 ≤ _ by omega) (by omega) (Sub.cons rfl (Sub.cons rfl (Sub.cons rfl (Sub.cons (congrArg (fun z => some (Value.int IntKind.i64 z)) (by omega)) (Sub.cons (congrArg (fun z : BitVec 64 => some (b64 z)) (by rw [take_get hx, nowF_snoc, if_pos (by omega)])) Sub.nil))))) (List.Perm.refl _)
  ·skip
   try simp only [hasB, isSizeB, Bool.not_eq_true', Bool.not_eq_false', bne_iff_ne, ne_eq, bne_eq_false_iff_eq, beq_iff_eq, beq_eq_false_iff_ne, decide_eq_true_eq, decide_eq_false_iff_not, gt_iff_lt, ge_iff_le] at h2
   refine At.skipC ?_
   refine At.blkN ?_
   refine At.thenN ?_
   refine At.region ?_
   refine tM rfl rfl ?_
   first | refine At.val (Val.addI rfl rfl (by omega) (by omega)) rfl rfl rfl ?_ | refine At.val (Val.bin rfl rfl rfl) rfl rfl rfl ?_
   refine tA rfl rfl ?_
   refine tE ?_
   exact At.again (i + 1) (show i + 1 ≤ _ by omega) (by omega) (Sub.cons rfl (Sub.cons rfl (Sub.cons rfl (Sub.cons (congrArg (fun z => some (Value.int IntKind.i64 z)) (by omega)) (Sub.cons (congrArg (fun z : BitVec 64 => some (b64 z)) (by rw [take_get hx, nowF_snoc, if_neg (by omega)])) Sub.nil))))) (List.Perm.refl _)
 ·skip
  try simp only [hasB, isSizeB, Bool.not_eq_true', Bool.not_eq_false', bne_iff_ne, ne_eq, bne_eq_false_iff_eq, beq_iff_eq, beq_eq_false_iff_ne, decide_eq_true_eq, decide_eq_false_iff_not, gt_iff_lt, ge_iff_le] at h1
  refine At.exitC ?_
  refine At.thenX ?_
  refine At.thenX ?_
  refine At.blkX ?_
  refine At.thenN ?_
  refine tR ?_
  refine tM rfl rfl ?_
  refine tA rfl rfl ?_
  refine tE ?_
  refine At.retC ?_
  refine At.ret1 (.inl rfl) rfl rfl rfl (fun w hw => ?_)
  exact ⟨by rw [List.take_of_length_le (by omega)], retR (F := []) hw⟩
theorem rword_k (p : Nat) (γ : Rg) (ρ : Rs) (k j : Nat) (l : Rl) (v0 : BitVec 64) (w : World) (hk : ρ.ls[k]? = some l) (hj : j < 8) (hv0 : l.first[j]? = some v0) (hd : (RDev p γ ρ).holds w) :
    RowKT Tryz.prog 64 [.pointer (some ⟨p, 0, none⟩), .int .i64 (8 * ((8 * k + j : Nat) : Int))] (RDev p γ ρ) (fun v' => .tuple #[b64 (oldF j (setF ρ.fenced l.fl) v0 l.puts), v']) tW 1 (newsF j (setF ρ.fenced l.fl) l.puts).length ((newsF j (setF ρ.fenced l.fl) l.puts).map b64) w := by
 refine enterR hd Tryz.func64 rfl Tryz.ntmps64 rfl ?_
 unfold rdevL
 obtain ⟨hQ, hg⟩ := RDev.facts hd
 have hln := hg.len
 have hps := hg.pos
 have hnw := hg.now
 have h8 := first8_of hQ hg
 have hQl : γ.Q.length = ρ.ls.length := by rw [← hQ, List.length_map]
 have hkl := (List.getElem?_eq_some_iff.1 hk).1
 obtain ⟨q, hq⟩ : ∃ q, γ.Q[k]? = some q := ⟨_, List.getElem?_eq_getElem (by omega)⟩
 have hlq := line_at hQ hq
 obtain ⟨hg1, hg2, hg3, hg4, hg5⟩ := hg.line q.1 (List.mem_of_getElem? hlq)
 obtain rfl : l = q.1 := Option.some.inj (hk.symm.trans hlq)
 simp only [envOf]
 refine tR ?_
 refine tA rfl rfl ?_
 refine tA rfl rfl ?_
 refine tE ?_
 refine tR ?_
 refine tM rfl rfl ?_
 refine At.val (Val.quoI rfl rfl (by omega) (by omega) (by decide)) rfl rfl rfl ?_
 rw [show 8 * ((8 * k + j : Nat) : Int) / 8 = ((8 * k + j : Nat) : Int) from by omega]
 refine At.val (Val.remI rfl rfl (by omega) (by decide)) rfl rfl rfl ?_
 rw [show ((8 * k + j : Nat) : Int) % 8 = (j : Int) from by omega]
 refine tA rfl rfl ?_
 refine tE ?_
 refine tR ?_
 refine tM rfl rfl ?_
 refine At.val (Val.nilCheck rfl) rfl rfl rfl ?_
 refine At.val (Val.field 0 rfl fo_50_0 rfl) rfl rfl rfl ?_
 refine At.val (Val.load (i := 0) Tryz.isAgg48 rfl rfl rfl) rfl rfl rfl ?_
 refine tM rfl rfl ?_
 refine At.val (Val.quoI rfl rfl (by omega) (by omega) (by decide)) rfl rfl rfl ?_
 rw [show 8 * ((8 * k + j : Nat) : Int) / 64 = (k : Int) from by omega]
 refine tM rfl rfl ?_
 refine At.val (Val.indexRow (i := 1) (k * 10) (by omega) Tryz.underlying48 Tryz.sizeOf118 rfl rfl rfl (by omega) (by omega)) rfl rfl rfl ?_
 refine At.val (Val.field ((k * 10 + 0)) rfl fo_118_0 rfl) rfl rfl rfl ?_
 refine At.val (Val.indexArr (k * 10 + j) (by omega) Tryz.underlying115 Tryz.sizeOf32 rfl rfl (by omega) (by omega)) rfl rfl rfl ?_
 refine At.val (Val.loadRow (i := 1) Tryz.isAgg32 rfl rfl (lC_first h8 hq hv0)) rfl rfl rfl ?_
 refine tA rfl rfl ?_
 refine tE ?_
 refine tR ?_
 refine tM rfl rfl ?_
 refine At.val (Val.nilCheck rfl) rfl rfl rfl ?_
 refine At.val (Val.field 0 rfl fo_50_0 rfl) rfl rfl rfl ?_
 refine At.val (Val.load (i := 0) Tryz.isAgg48 rfl rfl rfl) rfl rfl rfl ?_
 refine tM rfl rfl ?_
 refine At.val (Val.quoI rfl rfl (by omega) (by omega) (by decide)) rfl rfl rfl ?_
 rw [show 8 * ((8 * k + j : Nat) : Int) / 64 = (k : Int) from by omega]
 refine At.val (Val.indexRow (i := 1) (k * 10) (by omega) Tryz.underlying48 Tryz.sizeOf118 rfl rfl rfl (by omega) (by omega)) rfl rfl rfl ?_
 refine At.val (Val.field ((k * 10 + 8)) rfl fo_118_1 rfl) rfl rfl rfl ?_
 refine At.val (Val.loadRow (i := 1) Tryz.isAgg116 rfl rfl (lC_puts h8 hq)) rfl rfl rfl ?_
 refine tA rfl rfl ?_
 refine tE ?_
 refine At.seq ?_
 refine tR ?_
 refine tM rfl rfl ?_
 refine At.val (Val.lenO (fam_puts (i := 2) rfl hq) (by decide) Tryz.underlying116 rfl) rfl rfl rfl ?_
 refine At.val (Val.bin rfl rfl rfl) rfl rfl rfl ?_
 refine tE ?_
 refine At.cond rfl (fun h1 => ?_) (fun h1 => ?_)
 ·skip
  try simp only [hasB, isSizeB, Bool.not_eq_true', Bool.not_eq_false', bne_iff_ne, ne_eq, bne_eq_false_iff_eq, beq_iff_eq, beq_eq_false_iff_ne, decide_eq_true_eq, decide_eq_false_iff_not, gt_iff_lt, ge_iff_le] at h1
  refine tR ?_
  refine tM rfl rfl ?_
  refine tA rfl rfl ?_
  refine tA rfl rfl ?_
  refine tE ?_
  refine At.retC ?_
  refine At.thenR ?_
  refine At.ret2 (.inl rfl) rfl rfl rfl rfl (fun w hw => ?_)
  have hp0 : q.1.puts = [] := List.eq_nil_of_length_eq_zero (by omega)
  rw [hp0]
  exact ⟨_, rfl, retRR (F := []) (hw.new (r' := wrow tW (.slice none 0 0) []) (Mod.refl _ _) (World.ownsRow_nil _ 0 _ _) (fun b hb => by simp [rowR, Value.ownBlock] at hb))⟩
 ·skip
  try simp only [hasB, isSizeB, Bool.not_eq_true', Bool.not_eq_false', bne_iff_ne, ne_eq, bne_eq_false_iff_eq, beq_iff_eq, beq_eq_false_iff_ne, decide_eq_true_eq, decide_eq_false_iff_not, gt_iff_lt, ge_iff_le] at h1
  refine At.skipC ?_
  refine At.thenN ?_
  refine tR ?_
  refine tM rfl rfl ?_
  refine tM rfl rfl ?_
  refine At.val (Val.quoI rfl rfl (by omega) (by omega) (by decide)) rfl rfl rfl ?_
  rw [show 8 * ((8 * k + j : Nat) : Int) / 64 = (k : Int) from by omega]
  refine At.callKS (rdevL p γ ρ) rfl (fun w hw hr => settled_k _ _ _ k q.1 w hk hr) Tryz.call98 rfl rfl ?_
  refine tA rfl rfl ?_
  refine tE ?_
  refine tR ?_
  refine tA rfl rfl ?_
  refine At.nil ?_
  refine At.rowNilW 32 ?_
  refine At.thenN ?_
  refine At.seq ?_
  refine tR ?_
  refine tA rfl rfl ?_
  refine tE ?_
  refine At.block ?_
  skip
  refine At.loop (σ := Nat × Value) (fun s => s.1 ≤ q.1.puts.length) (fun s => [(0, .pointer (some ⟨p, 0, none⟩)), (6, .int .i64 (j : Int)), (7, b64 (oldF j (setF ρ.fenced q.1.fl) v0 (q.1.puts.take s.1))), (8, q.2.1), (9, .int .i64 (((setF ρ.fenced q.1.fl) : Nat) : Int)), (10, s.2), (11, .int .i64 (s.1 : Int))]) (fun s => [wrow tW s.2 (newsF j (setF ρ.fenced q.1.fl) (q.1.puts.take s.1)), blk p 50 ([γ.vl, .int .i64 (ρ.fenced : Int), .int .i64 (ρ.now : Int), .int .i64 ρ.left]), rowR γ.vl 118 10 (γ.Q.length) (lC γ.Q), fam (lI γ.Q), factR (γ.Q.map Prod.fst = ρ.ls ∧ Rgood ρ)]) (fun s => q.1.puts.length - s.1) (0, .slice none 0 0) (Nat.zero_le _) (Sub.cons rfl (Sub.cons rfl (Sub.cons rfl (Sub.cons rfl (Sub.cons rfl (Sub.cons rfl (Sub.cons rfl Sub.nil))))))) (List.Perm.refl _) ?_
  intro s hs
  obtain ⟨i, vr⟩ := s
  dsimp only at hs ⊢
  have hnl := newsF_len j (setF ρ.fenced q.1.fl) (q.1.puts.take i)
  rw [List.length_take] at hnl
  refine At.seq ?_
  refine tR ?_
  refine tM rfl rfl ?_
  refine tM rfl rfl ?_
  refine At.val (Val.lenO (fam_puts (i := 3) rfl hq) (by decide) Tryz.underlying116 rfl) rfl rfl rfl ?_
  refine At.val (Val.bin rfl rfl rfl) rfl rfl rfl ?_
  refine tE ?_
  refine At.cond rfl (fun h2 => ?_) (fun h2 => ?_)
  ·skip
   try simp only [hasB, isSizeB, Bool.not_eq_true', Bool.not_eq_false', bne_iff_ne, ne_eq, bne_eq_false_iff_eq, beq_iff_eq, beq_eq_false_iff_ne, decide_eq_true_eq, decide_eq_false_iff_not, gt_iff_lt, ge_iff_le] at h2
   obtain ⟨x, hx⟩ : ∃ x, q.1.puts[i]? = some x := ⟨_, List.getElem?_eq_getElem (by omega)⟩
   refine At.skipC ?_
   refine At.thenN ?_
   refine At.seq ?_
   refine At.block ?_
   refine tR ?_
   refine tM rfl rfl ?_
   refine tM rfl rfl ?_
   refine At.val (Val.indexO (fam_puts (i := 3) rfl hq) (i * 3) (by omega) Tryz.underlying116 Tryz.sizeOf120 rfl rfl (by omega) (by omega)) rfl rfl rfl ?_
   refine At.val (Val.field ((i * 3 + 0)) rfl fo_120_0 rfl) rfl rfl rfl ?_
   refine At.val (Val.loadO (fam_puts (i := 3) rfl hq) Tryz.isAgg3 rfl (pC_at (i := 0) hx rfl)) rfl rfl rfl ?_
   refine At.weaken [(0, _), (6, _), (7, _), (8, _), (9, _), (10, _), (11, _), (43, _), (44, _), (45, _), (46, _), (53, _)] (Sub.cons rfl (Sub.cons rfl (Sub.cons rfl (Sub.cons rfl (Sub.cons rfl (Sub.cons rfl (Sub.cons rfl (Sub.cons rfl (Sub.cons rfl (Sub.cons rfl (Sub.cons rfl (Sub.cons rfl Sub.nil)))))))))))) ?_
   refine At.boolMeet 11 64 (decide (x.1 = j ∧ x.2.2 < (setF ρ.fenced q.1.fl))) ?_ ?_
   ·skip
    simp only [List.take_succ_cons, List.take_zero]
    refine tM rfl rfl ?_
    refine At.val (Val.bin rfl rfl rfl) rfl rfl rfl ?_
    refine tM rfl rfl ?_
    refine At.split (t := 56) rfl (fun h3 => ?_) (fun h3 => ?_)
    ·skip
     try simp only [hasB, isSizeB, Bool.not_eq_true', Bool.not_eq_false', bne_iff_ne, ne_eq, bne_eq_false_iff_eq, beq_iff_eq, beq_eq_false_iff_ne, decide_eq_true_eq, decide_eq_false_iff_not, gt_iff_lt, ge_iff_le] at h3
     refine At.yes rfl rfl ?_
     refine tM rfl rfl ?_
     refine At.yes rfl rfl ?_
     refine tM rfl rfl ?_
     refine At.yes rfl rfl ?_
     refine At.val (Val.indexO (fam_puts (i := 3) rfl hq) (i * 3) (by omega) Tryz.underlying116 Tryz.sizeOf120 rfl rfl (by omega) (by omega)) rfl rfl rfl ?_
     refine At.yes rfl rfl ?_
     refine At.val (Val.field ((i * 3 + 2)) rfl fo_120_2 rfl) rfl rfl rfl ?_
     refine At.yes rfl rfl ?_
     refine At.val (Val.loadO (fam_puts (i := 3) rfl hq) Tryz.isAgg3 rfl (pC_at (i := 2) hx rfl)) rfl rfl rfl ?_
     refine At.yes rfl rfl ?_
     refine tM rfl rfl ?_
     refine At.yes rfl rfl ?_
     refine At.val (Val.bin rfl rfl rfl) rfl rfl rfl ?_
     refine At.val (Val.pickT rfl rfl) rfl rfl rfl ?_
     refine At.nil ?_
     exact At.boolEnd rfl (by apply Bool.eq_iff_iff.2; (simp only [decide_eq_true_eq, Bool.false_eq_true, false_iff, true_iff, gt_iff_lt, ge_iff_le]) <;> omega) (by repeat (first | exact Sub.nil | refine Sub.cons rfl ?_))
    ·skip
     try simp only [hasB, isSizeB, Bool.not_eq_true', Bool.not_eq_false', bne_iff_ne, ne_eq, bne_eq_false_iff_eq, beq_iff_eq, beq_eq_false_iff_ne, decide_eq_true_eq, decide_eq_false_iff_not, gt_iff_lt, ge_iff_le] at h3
     refine At.no rfl rfl rfl rfl ?_
     refine At.no rfl rfl rfl rfl ?_
     refine At.no rfl rfl rfl rfl ?_
     refine At.no rfl rfl rfl rfl ?_
     refine At.no rfl rfl rfl rfl ?_
     refine At.no rfl rfl rfl rfl ?_
     refine At.no rfl rfl rfl rfl ?_
     refine At.val (Val.pickF rfl rfl) rfl rfl rfl ?_
     refine At.nil ?_
     exact At.boolEnd rfl (by apply Bool.eq_iff_iff.2; (simp only [decide_eq_true_eq, Bool.false_eq_true, false_iff, true_iff, gt_iff_lt, ge_iff_le]) <;> omega) (by repeat (first | exact Sub.nil | refine Sub.cons rfl ?_))
   ·skip
    simp only [List.drop_succ_cons, List.drop_zero]
    refine tE ?_
    refine At.cond rfl (fun h4 => ?_) (fun h4 => ?_)
    ·skip
     try simp only [hasB, isSizeB, Bool.not_eq_true', Bool.not_eq_false', bne_iff_ne, ne_eq, bne_eq_false_iff_eq, beq_iff_eq, beq_eq_false_iff_ne, decide_eq_true_eq, decide_eq_false_iff_not, gt_iff_lt, ge_iff_le] at h4
     refine At.region ?_
     refine tM rfl rfl ?_
     refine tM rfl rfl ?_
     refine At.val (Val.indexO (fam_puts (i := 3) rfl hq) (i * 3) (by omega) Tryz.underlying116 Tryz.sizeOf120 rfl rfl (by omega) (by omega)) rfl rfl rfl ?_
     refine At.val (Val.field ((i * 3 + 1)) rfl fo_120_1 rfl) rfl rfl rfl ?_
     refine At.val (Val.loadO (fam_puts (i := 3) rfl hq) Tryz.isAgg32 rfl (pC_at (i := 1) hx rfl)) rfl rfl rfl ?_
     refine tA rfl rfl ?_
     refine At.nil ?_
     refine At.blkN ?_
     refine At.thenN ?_
     refine At.region ?_
     refine tM rfl rfl ?_
     first | refine At.val (Val.addI rfl rfl (by omega) (by omega)) rfl rfl rfl ?_ | refine At.val (Val.bin rfl rfl rfl) rfl rfl rfl ?_
     refine tA rfl rfl ?_
     refine tE ?_
     exact At.again (i + 1, vr) (show i + 1 ≤ _ by omega) (by dsimp only; omega) (Sub.cons rfl (Sub.cons rfl (Sub.cons (congrArg (fun z : BitVec 64 => some (b64 z)) (by rw [take_get hx, oldF_snoc, if_pos (by omega)])) (Sub.cons rfl (Sub.cons rfl (Sub.cons rfl (Sub.cons (congrArg (fun z => some (Value.int IntKind.i64 z)) (by omega)) Sub.nil))))))) (by dsimp only; rw [take_get hx, newsF_no (by omega)])
    ·skip
     try simp only [hasB, isSizeB, Bool.not_eq_true', Bool.not_eq_false', bne_iff_ne, ne_eq, bne_eq_false_iff_eq, beq_iff_eq, beq_eq_false_iff_ne, decide_eq_true_eq, decide_eq_false_iff_not, gt_iff_lt, ge_iff_le] at h4
     refine tR ?_
     refine tM rfl rfl ?_
     refine tM rfl rfl ?_
     refine At.val (Val.indexO (fam_puts (i := 3) rfl hq) (i * 3) (by omega) Tryz.underlying116 Tryz.sizeOf120 rfl rfl (by omega) (by omega)) rfl rfl rfl ?_
     refine At.val (Val.field ((i * 3 + 0)) rfl fo_120_0 rfl) rfl rfl rfl ?_
     refine At.val (Val.loadO (fam_puts (i := 3) rfl hq) Tryz.isAgg3 rfl (pC_at (i := 0) hx rfl)) rfl rfl rfl ?_
     refine tM rfl rfl ?_
     refine At.val (Val.bin rfl rfl rfl) rfl rfl rfl ?_
     refine tE ?_
     refine At.cond rfl (fun h5 => ?_) (fun h5 => ?_)
     ·skip
      try simp only [hasB, isSizeB, Bool.not_eq_true', Bool.not_eq_false', bne_iff_ne, ne_eq, bne_eq_false_iff_eq, beq_iff_eq, beq_eq_false_iff_ne, decide_eq_true_eq, decide_eq_false_iff_not, gt_iff_lt, ge_iff_le] at h5
      refine At.region ?_
      refine tM rfl rfl ?_
      refine tM rfl rfl ?_
      refine tM rfl rfl ?_
      refine At.val (Val.indexO (fam_puts (i := 3) rfl hq) (i * 3) (by omega) Tryz.underlying116 Tryz.sizeOf120 rfl rfl (by omega) (by omega)) rfl rfl rfl ?_
      refine At.val (Val.field ((i * 3 + 1)) rfl fo_120_1 rfl) rfl rfl rfl ?_
      refine At.val (Val.loadO (fam_puts (i := 3) rfl hq) Tryz.isAgg32 rfl (pC_at (i := 1) hx rfl)) rfl rfl rfl ?_
      refine At.buildSl (fun a ha => by simp only [List.map_toArray, List.map_cons, List.map_nil, ha.eval (x := (.tmp 82)) rfl]; try rfl) (bs_44_1 _ ) rfl (fun b6 => ?_)
      refine At.appendWs (i := 1) (j := 0) (ms := [x.2.1]) (by_ := 8) Tryz.underlying44 info_32 rfl rfl rfl rfl rfl rfl rfl rfl rfl (by omega) (by omega) rfl (fun v7 => ?_)
      simp only [sc0, scS]
      refine At.drop 0 ?_
      simp only [ec0, ecS]
      refine tA rfl rfl ?_
      refine At.nil ?_
      refine At.blkN ?_
      refine At.thenN ?_
      refine At.region ?_
      refine tM rfl rfl ?_
      first | refine At.val (Val.addI rfl rfl (by omega) (by omega)) rfl rfl rfl ?_ | refine At.val (Val.bin rfl rfl rfl) rfl rfl rfl ?_
      refine tA rfl rfl ?_
      refine tE ?_
      exact At.again (i + 1, v7) (show i + 1 ≤ _ by omega) (by dsimp only; omega) (Sub.cons rfl (Sub.cons rfl (Sub.cons (congrArg (fun z : BitVec 64 => some (b64 z)) (by rw [take_get hx, oldF_snoc, if_neg (by omega)])) (Sub.cons rfl (Sub.cons rfl (Sub.cons rfl (Sub.cons (congrArg (fun z => some (Value.int IntKind.i64 z)) (by omega)) Sub.nil))))))) (by dsimp only; rw [take_get hx, newsF_yes (by omega) (by omega)])
     ·skip
      try simp only [hasB, isSizeB, Bool.not_eq_true', Bool.not_eq_false', bne_iff_ne, ne_eq, bne_eq_false_iff_eq, beq_iff_eq, beq_eq_false_iff_ne, decide_eq_true_eq, decide_eq_false_iff_not, gt_iff_lt, ge_iff_le] at h5
      refine At.skipC ?_
      refine At.blkN ?_
      refine At.thenN ?_
      refine At.region ?_
      refine tM rfl rfl ?_
      first | refine At.val (Val.addI rfl rfl (by omega) (by omega)) rfl rfl rfl ?_ | refine At.val (Val.bin rfl rfl rfl) rfl rfl rfl ?_
      refine tA rfl rfl ?_
      refine tE ?_
      exact At.again (i + 1, vr) (show i + 1 ≤ _ by omega) (by dsimp only; omega) (Sub.cons rfl (Sub.cons rfl (Sub.cons (congrArg (fun z : BitVec 64 => some (b64 z)) (by rw [take_get hx, oldF_snoc, if_neg (by omega)])) (Sub.cons rfl (Sub.cons rfl (Sub.cons rfl (Sub.cons (congrArg (fun z => some (Value.int IntKind.i64 z)) (by omega)) Sub.nil))))))) (by dsimp only; rw [take_get hx, newsF_no (by omega)])
  ·skip
   try simp only [hasB, isSizeB, Bool.not_eq_true', Bool.not_eq_false', bne_iff_ne, ne_eq, bne_eq_false_iff_eq, beq_iff_eq, beq_eq_false_iff_ne, decide_eq_true_eq, decide_eq_false_iff_not, gt_iff_lt, ge_iff_le] at h2
   refine At.exitC ?_
   refine At.thenX ?_
   refine At.thenX ?_
   refine At.blkX ?_
   refine At.thenN ?_
   refine tR ?_
   refine tM rfl rfl ?_
   refine tM rfl rfl ?_
   refine tA rfl rfl ?_
   refine tA rfl rfl ?_
   refine tE ?_
   refine At.retC ?_
   refine At.ret2 (.inl rfl) rfl rfl rfl rfl (fun w hw => ?_)
   rw [List.take_of_length_le (by omega)] at hw ⊢
   exact ⟨_, rfl, retRR (F := []) hw⟩
end Go.Proofs.YthhkbbodhghmcaaGreatDoor
set_option linter.unusedVariables false
set_option linter.unusedSimpArgs false
namespace Go.Proofs.YthhkbbodhghmcaaGreatDoor
open Go Go.Wk
def flushL (ρ : Rs) (k : Nat) (l : Rl) : Rs := { stepR ρ with ls := ρ.ls.set k { l with fl := l.fl ++ [ρ.now + 1] } }
def storeL (ρ : Rs) (k j : Nat) (l : Rl) (x : BitVec 64) : Rs := { stepR ρ with ls := ρ.ls.set k { l with puts := l.puts ++ [(j, x, ρ.now + 1)] } }
theorem mem_setR {ls : List Rl} {k : Nat} {a l : Rl} (h : l ∈ ls.set k a) : l = a ∨ l ∈ ls := by
  rcases List.mem_or_eq_of_mem_set h with h | h
  · exact .inr h
  · exact .inl h
theorem flushL_good {ρ : Rs} {k : Nat} {l : Rl} (h : Rgood ρ) (hk : ρ.ls[k]? = some l) (hs : ρ.now + 1 ≤ 1099511627776) : Rgood (flushL ρ k l) := by
  have h1 := stepR_good h hs
  obtain ⟨g1, g2, g3, g4, g5⟩ := h1.line l (List.mem_of_getElem? hk)
  have g3' := (h.line l (List.mem_of_getElem? hk)).2.2.1
  refine ⟨by simpa [flushL] using h.pos, by simpa [flushL] using h.len, hs, h1.fen, h1.left, fun m hm => ?_⟩
  rcases mem_setR hm with rfl | hm
  · refine ⟨g1, g2, ?_, g4, fun t ht => ?_⟩
    · show (l.fl ++ [ρ.now + 1]).length ≤ ρ.now + 1
      rw [List.length_append, List.length_singleton]; omega
    · rcases List.mem_append.1 ht with ht | ht
      · exact g5 t ht
      · rw [List.mem_singleton.1 ht]; exact Nat.le_refl _
  · exact h1.line m hm
theorem storeL_good {ρ : Rs} {k j : Nat} {l : Rl} {x : BitVec 64} (h : Rgood ρ) (hk : ρ.ls[k]? = some l) (hj : j < 8) (hs : ρ.now + 1 ≤ 1099511627776) : Rgood (storeL ρ k j l x) := by
  have h1 := stepR_good h hs
  obtain ⟨g1, g2, g3, g4, g5⟩ := h1.line l (List.mem_of_getElem? hk)
  have g2' := (h.line l (List.mem_of_getElem? hk)).2.1
  refine ⟨by simpa [storeL] using h.pos, by simpa [storeL] using h.len, hs, h1.fen, h1.left, fun m hm => ?_⟩
  rcases mem_setR hm with rfl | hm
  · refine ⟨g1, ?_, g3, fun c hc => ?_, g5⟩
    · show (l.puts ++ [(j, x, ρ.now + 1)]).length ≤ ρ.now + 1
      rw [List.length_append, List.length_singleton]; omega
    · rcases List.mem_append.1 hc with hc | hc
      · exact g4 c hc
      · rw [List.mem_singleton.1 hc]; exact ⟨hj, Nat.le_refl _⟩
  · exact h1.line m hm
theorem wrong_at {ρ : Rs} {K : Nat} (h : K < 8 * ρ.ls.length) : wrongE ρ (8 * (K : Int)) = 0 := by unfold wrongE; rw [if_pos (by omega), if_pos (by omega)]
def zL : Rl := ⟨List.replicate 8 0, [], []⟩
def zeroR (M : Nat) : Rs := ⟨List.replicate M zL, 0, 0, -1⟩
def nilQ (ls : List Rl) : List Lq := ls.map fun l => (l, .slice none 0 0, .slice none 0 0)
theorem nilQ_fst (ls : List Rl) : (nilQ ls).map Prod.fst = ls := by unfold nilQ; rw [List.map_map]; exact List.map_id _
theorem nilQ_at {ls : List Rl} {k : Nat} {q : Lq} (h : (nilQ ls)[k]? = some q) : ∃ l, ls[k]? = some l ∧ q = (l, .slice none 0 0, .slice none 0 0) := by
  unfold nilQ at h
  rw [List.getElem?_map] at h
  cases hl : ls[k]? with
  | none => rw [hl] at h; cases h
  | some l => rw [hl] at h; exact ⟨l, rfl, (Option.some.inj h).symm⟩
theorem nil_foot {l : Rl} (hp : l.puts = []) (hf : l.fl = []) {b : Nat} (h : (star [purow (.slice none 0 0) l.puts, flrow (.slice none 0 0) l.fl]).foot b) : False := by
  obtain ⟨r, hr, hb⟩ := h
  simp only [List.mem_cons, List.not_mem_nil, or_false] at hr
  rcases hr with rfl | rfl
  · simp [purow, rowR, Value.ownBlock] at hb
  · simp [flrow, rowR, Value.ownBlock] at hb
/-- Lines without stores and flushes own nothing. -/
theorem Rep.famNone {w0 w : World} {S : Nat → Prop} {H : List Res} {ls : List Rl} (hn : ∀ l ∈ ls, l.puts = [] ∧ l.fl = []) (h : Rep w0 S H w) : Rep w0 S (fam (lI (nilQ ls)) :: H) w := by
  have key : ∀ k r, lI (nilQ ls) k = some r → ∃ l, l ∈ ls ∧ r = star [purow (.slice none 0 0) l.puts, flrow (.slice none 0 0) l.fl] := by
    intro k r hr
    unfold lI at hr
    cases hq : (nilQ ls)[k]? with
    | none => rw [hq] at hr; cases hr
    | some q =>
      rw [hq] at hr
      obtain ⟨l, hl, rfl⟩ := nilQ_at hq
      exact ⟨l, List.mem_of_getElem? hl, (Option.some.inj hr).symm⟩
  have hfoot : ∀ b, (fam (lI (nilQ ls))).foot b → False := fun b ⟨k, r, hr, hb⟩ => by
    obtain ⟨l, hl, rfl⟩ := key k r hr
    exact nil_foot (hn l hl).1 (hn l hl).2 hb
  refine ⟨List.pairwise_cons.2 ⟨fun s _ b hb _ => hfoot b hb, h.sep⟩, fun r hr => ?_, fun r hr b hb => ?_, h.mod⟩
  · rcases List.mem_cons.1 hr with rfl | h1
    · refine ⟨fun k r hr => ?_, fun k k' r r' hr _ _ b hb _ => ?_⟩
      · obtain ⟨l, hl, rfl⟩ := key k r hr
        obtain ⟨h1, h2⟩ := hn l hl
        rw [h1, h2]
        refine ⟨by refine List.pairwise_cons.2 ⟨fun s _ b hb _ => ?_, by simp⟩; simp [purow, rowR, Value.ownBlock] at hb, fun r hr => ?_⟩
        simp only [List.mem_cons, List.not_mem_nil, or_false] at hr
        rcases hr with rfl | rfl
        · exact World.ownsRow_nil w 0 tPu 3
        · exact World.ownsRow_nil w 0 tI 1
      · obtain ⟨l, hl, rfl⟩ := key k r hr
        exact (nil_foot (hn l hl).1 (hn l hl).2 hb).elim
    · exact h.all r h1
  · rcases List.mem_cons.1 hr with rfl | h1
    · exact (hfoot b hb).elim
    · exact h.mine r h1 b hb
theorem At.famNone {Γ : Ctx} {E : Env} {H : List Res} {φ : Act → World → Prop} {ls : List Rl} (hn : ∀ l ∈ ls, l.puts = [] ∧ l.fl = []) (k : At Γ E (fam (lI (nilQ ls)) :: H) φ) : At Γ E H φ := fun a w ha hw => k a w ha (Rep.famNone hn hw)
abbrev zCells : List Value := [.int .u64 0, .int .u64 0, .int .u64 0, .int .u64 0, .int .u64 0, .int .u64 0, .int .u64 0, .int .u64 0, .slice none 0 0, .slice none 0 0]
theorem lC_zero : ∀ (M : Nat), lC (nilQ (List.replicate M zL)) = (List.replicate M zCells).flatten
  | 0 => rfl
  | M + 1 => by
    have := lC_zero M
    rw [List.replicate_succ, List.replicate_succ, List.flatten_cons, ← this]; rfl
theorem made_lines (M : Nat) : (madeCells zCells.toArray (M * 10)).toList = lC (nilQ (List.replicate M zL)) := by
  rw [lC_zero]
  apply List.ext_getElem?
  intro i
  have hl : (madeCells zCells.toArray (M * 10)).toList.length = M * 10 := by simp [madeCells]
  have hl2 : (List.replicate M zCells).flatten.length = M * 10 := by simp [List.length_flatten, List.map_replicate, List.sum_replicate_nat]
  rcases Nat.lt_or_ge i (M * 10) with h | h
  · rw [List.getElem?_eq_getElem (by rw [hl]; exact h)]
    have e1 : (madeCells zCells.toArray (M * 10)).toList[i]'(by rw [hl]; exact h) = (zCells[i % 10]?).getD undef := by
      simp [madeCells, List.getElem?_eq_getElem (show i % 10 < zCells.length from Nat.mod_lt _ (by decide))]
    rw [e1]
    have key : ∀ (M i : Nat), i < M * 10 → (List.replicate M zCells).flatten[i]? = zCells[i % 10]? := by
      intro M
      induction M with
      | zero => intro i hi; omega
      | succ M ih =>
        intro i hi
        rw [List.replicate_succ, List.flatten_cons]
        rcases Nat.lt_or_ge i 10 with h1 | h1
        · rw [List.getElem?_append_left (by simpa using h1), Nat.mod_eq_of_lt h1]
        · rw [List.getElem?_append_right (by simpa using h1), show zCells.length = 10 from rfl, ih (i - 10) (by omega), show (i - 10) % 10 = i % 10 by omega]
    rw [key M i h]
    have h10 : i % 10 < zCells.length := Nat.mod_lt _ (by decide)
    rw [List.getElem?_eq_getElem h10]; rfl
  · rw [List.getElem?_eq_none (by rw [hl]; exact h), List.getElem?_eq_none (by rw [hl2]; exact h)]
theorem zeroR_good {M : Nat} (h0 : 0 < M) (h1 : M ≤ 8192) : Rgood (zeroR M) := by
  refine ⟨by simpa [zeroR] using h0, by simpa [zeroR] using h1, Nat.zero_le _, Nat.le_refl _, ⟨by simp [zeroR], by simp [zeroR]⟩, fun l hl => ?_⟩
  obtain rfl := (List.mem_replicate.1 hl).2
  exact ⟨rfl, Nat.le_refl _, Nat.le_refl _, by simp [zL], by simp [zL]⟩
theorem info_118 : Tryz.prog.info? 118 = some Tryz.t118 := by kernel_rfl
theorem nilQ_len (ls : List Rl) : (nilQ ls).length = ls.length := List.length_map ..
theorem rflush_d (p : Nat) (γ : Rg) (ρ : Rs) (a : Int) (k : Nat) (l : Rl) (w : World) (hk : ρ.ls[k]? = some l) (h0 : 64 * (k : Int) ≤ a) (h1 : a < 64 * (k : Int) + 64) (hs : ρ.now + 1 ≤ 1099511627776) (hno : ρ.left ≠ 0) (hd : (RDev p γ ρ).holds w) :
    RDevU Tryz.prog 80 [.pointer (some ⟨p, 0, none⟩), .int .i64 a] p γ ρ (.int .i64 0) (flushL ρ k l) w := by
 refine enterRc hd Tryz.func80 rfl Tryz.ntmps80 rfl ?_
 obtain ⟨hQ, hg⟩ := RDev.facts hd
 have hln := hg.len
 have hps := hg.pos
 have hnw := hg.now
 have hkl := (List.getElem?_eq_some_iff.1 hk).1
 simp only [envOf]
 refine tR ?_
 refine tA rfl rfl ?_
 refine tE ?_
 refine At.seq ?_
 refine tR ?_
 refine tM rfl rfl ?_
 refine At.val (Val.bin rfl rfl rfl) rfl rfl rfl ?_
 refine tM rfl rfl ?_
 refine At.split (t := 9) rfl (fun h1 => ?_) (fun h1 => ?_)
 ·skip
  try simp only [hasB, isSizeB, Bool.not_eq_true', Bool.not_eq_false', bne_iff_ne, ne_eq, bne_eq_false_iff_eq, beq_iff_eq, beq_eq_false_iff_ne, decide_eq_true_eq, decide_eq_false_iff_not, gt_iff_lt, ge_iff_le] at h1
  omega
 ·skip
  try simp only [hasB, isSizeB, Bool.not_eq_true', Bool.not_eq_false', bne_iff_ne, ne_eq, bne_eq_false_iff_eq, beq_iff_eq, beq_eq_false_iff_ne, decide_eq_true_eq, decide_eq_false_iff_not, gt_iff_lt, ge_iff_le] at h1
  refine At.yes rfl rfl ?_
  refine tM rfl rfl ?_
  refine At.yes rfl rfl ?_
  refine tM rfl rfl ?_
  refine At.yes rfl rfl ?_
  refine At.callK 0 rfl (fun w hw hr => rsize_k _ _ _ w hr) Tryz.call31 rfl rfl ?_
  refine At.yes rfl rfl ?_
  refine At.val (Val.bin rfl rfl rfl) rfl rfl rfl ?_
  refine At.val (Val.pickF rfl rfl) rfl rfl rfl ?_
  refine tE ?_
  refine At.cond rfl (fun h2 => ?_) (fun h2 => ?_)
  ·skip
   try simp only [hasB, isSizeB, Bool.not_eq_true', Bool.not_eq_false', bne_iff_ne, ne_eq, bne_eq_false_iff_eq, beq_iff_eq, beq_eq_false_iff_ne, decide_eq_true_eq, decide_eq_false_iff_not, gt_iff_lt, ge_iff_le] at h2
   omega
  ·skip
   try simp only [hasB, isSizeB, Bool.not_eq_true', Bool.not_eq_false', bne_iff_ne, ne_eq, bne_eq_false_iff_eq, beq_iff_eq, beq_eq_false_iff_ne, decide_eq_true_eq, decide_eq_false_iff_not, gt_iff_lt, ge_iff_le] at h2
   refine At.skipC ?_
   refine At.thenN ?_
   refine tR ?_
   refine tM rfl rfl ?_
   refine At.callRD 0 rfl (fun w hw hr => rstep_d _ _ _ w hs hno hr) Tryz.call76 rfl rfl (fun y3 => ?_)
   simp only [sc0, scS]
   refine tA rfl rfl ?_
   refine tE ?_
   refine At.seq ?_
   refine tR ?_
   refine tM rfl rfl ?_
   refine At.val (Val.bin rfl rfl rfl) rfl rfl rfl ?_
   refine tE ?_
   refine At.cond rfl (fun h4 => ?_) (fun h4 => ?_)
   ·skip
    try simp only [hasB, isSizeB, Bool.not_eq_true', Bool.not_eq_false', bne_iff_ne, ne_eq, bne_eq_false_iff_eq, beq_iff_eq, beq_eq_false_iff_ne, decide_eq_true_eq, decide_eq_false_iff_not, gt_iff_lt, ge_iff_le] at h4
    omega
   ·skip
    try simp only [hasB, isSizeB, Bool.not_eq_true', Bool.not_eq_false', bne_iff_ne, ne_eq, bne_eq_false_iff_eq, beq_iff_eq, beq_eq_false_iff_ne, decide_eq_true_eq, decide_eq_false_iff_not, gt_iff_lt, ge_iff_le] at h4
    refine At.skipC ?_
    refine At.thenN ?_
    refine At.seq ?_
    refine At.openS 0 rfl ?_
    simp only [rdevL, List.cons_append, List.nil_append, ec0, ecS]
    refine At.fact 3 rfl (fun hf => ?_)
    obtain ⟨hQ1, hg1⟩ := hf
    have h81 := first8_of hQ1 hg1
    have hQl1 : y3.Q.length = (stepR ρ).ls.length := by rw [← hQ1, List.length_map]
    obtain ⟨q, hq⟩ : ∃ q, y3.Q[k]? = some q := ⟨_, List.getElem?_eq_getElem (by rw [hQl1]; exact hkl)⟩
    have hlq := line_at hQ1 hq
    obtain rfl : l = q.1 := Option.some.inj (hk.symm.trans hlq)
    obtain ⟨hg11, hg12, hg13, hg14, hg15⟩ := hg1.line q.1 (List.mem_of_getElem? hlq)
    have hg13n := (hg.line q.1 (List.mem_of_getElem? hk)).2
    have hkQ : k < y3.Q.length := by rw [hQl1]; exact hkl
    refine At.region ?_
    refine tM rfl rfl ?_
    refine At.val (Val.nilCheck rfl) rfl rfl rfl ?_
    refine At.val (Val.field 0 rfl fo_50_0 rfl) rfl rfl rfl ?_
    refine At.val (Val.load (i := 0) Tryz.isAgg48 rfl rfl rfl) rfl rfl rfl ?_
    refine tM rfl rfl ?_
    refine At.val (Val.quoI rfl rfl (by omega) (by omega) (by decide)) rfl rfl rfl ?_
    rw [show a / 64 = (k : Int) from by omega]
    refine At.val (Val.indexRow (i := 1) (k * 10) (by omega) Tryz.underlying48 Tryz.sizeOf118 rfl rfl rfl (by omega) (by omega)) rfl rfl rfl ?_
    refine tA rfl rfl ?_
    refine tE ?_
    refine tR ?_
    refine tM rfl rfl ?_
    refine tM rfl rfl ?_
    refine At.val (Val.nilCheck rfl) rfl rfl rfl ?_
    refine At.val (Val.field ((k * 10 + 9)) rfl fo_118_2 rfl) rfl rfl rfl ?_
    refine At.val (Val.loadRow (i := 1) Tryz.isAgg36 rfl rfl (lC_fl h81 hq)) rfl rfl rfl ?_
    refine tM rfl rfl ?_
    refine At.buildSl (fun a ha => by simp only [List.map_toArray, List.map_cons, List.map_nil, ha.eval (x := (.tmp 31)) rfl]; try rfl) (bs_36_1 _ ) rfl (fun b5 => ?_)
    refine At.focusL 3 rfl hq ?_
    simp only [ec0, ecS]
    refine At.appendFl (i := 1) (j := 3) (by_ := 8) (c := ρ.now + 1) Tryz.underlying36 info_3 rfl rfl rfl rfl rfl rfl rfl rfl rfl (by omega) (by omega) rfl (fun v6 => ?_)
    simp only [sc0, scS]
    refine At.drop 3 ?_
    simp only [ec0, ecS]
    refine At.val (Val.nilCheck rfl) rfl rfl rfl ?_
    refine At.val (Val.field ((k * 10 + 9)) rfl fo_118_2 rfl) rfl rfl rfl ?_
    refine At.rowOne (i := 1) rfl (fun ho => ?_)
    refine At.storeRow (i := 4) Tryz.sizeOf36 rfl rfl ho rfl (by rw [lC_length h81]; omega) ?_
    simp only [sc0, scS]
    rw [lC_setFl (l' := { q.1 with fl := q.1.fl ++ [ρ.now + 1] }) h81 hq rfl]
    refine At.unfocusL (q' := ({ q.1 with fl := q.1.fl ++ [ρ.now + 1] }, q.2.1, v6)) hkQ ?_
    refine At.rot2 ?_
    refine tE ?_
    refine tR ?_
    refine tA rfl rfl ?_
    refine tE ?_
    refine At.retC ?_
    refine At.ret1 (.inl rfl) rfl rfl rfl (fun w hw => ?_)
    exact ⟨⟨y3.vl, y3.Q.set k ({ q.1 with fl := q.1.fl ++ [ρ.now + 1] }, q.2.1, v6)⟩, rfl, toRDev1 (by show (List.set _ _ _).map _ = List.set _ _ _; rw [List.map_set, hQ1]; rfl) (flushL_good hg hk hs) hw rfl (by rw [List.length_set]) rfl⟩
theorem rflush_0 (p : Nat) (γ : Rg) (ρ : Rs) (a : Int) (w : World) (h0 : 0 ≤ a) (h1 : a < 64 * (ρ.ls.length : Int)) (hno : ρ.left = 0) (hd : (RDev p γ ρ).holds w) :
    Upd Tryz.prog 80 [.pointer (some ⟨p, 0, none⟩), .int .i64 a] (RDev p γ ρ) (.int .i64 13) (RDev p γ ρ) w := by
 refine enterRc hd Tryz.func80 rfl Tryz.ntmps80 rfl ?_
 obtain ⟨hQ, hg⟩ := RDev.facts hd
 have hln := hg.len
 have hps := hg.pos
 have hnw := hg.now
 simp only [envOf]
 refine tR ?_
 refine tA rfl rfl ?_
 refine tE ?_
 refine At.seq ?_
 refine tR ?_
 refine tM rfl rfl ?_
 refine At.val (Val.bin rfl rfl rfl) rfl rfl rfl ?_
 refine tM rfl rfl ?_
 refine At.split (t := 9) rfl (fun h1 => ?_) (fun h1 => ?_)
 ·skip
  try simp only [hasB, isSizeB, Bool.not_eq_true', Bool.not_eq_false', bne_iff_ne, ne_eq, bne_eq_false_iff_eq, beq_iff_eq, beq_eq_false_iff_ne, decide_eq_true_eq, decide_eq_false_iff_not, gt_iff_lt, ge_iff_le] at h1
  omega
 ·skip
  try simp only [hasB, isSizeB, Bool.not_eq_true', Bool.not_eq_false', bne_iff_ne, ne_eq, bne_eq_false_iff_eq, beq_iff_eq, beq_eq_false_iff_ne, decide_eq_true_eq, decide_eq_false_iff_not, gt_iff_lt, ge_iff_le] at h1
  refine At.yes rfl rfl ?_
  refine tM rfl rfl ?_
  refine At.yes rfl rfl ?_
  refine tM rfl rfl ?_
  refine At.yes rfl rfl ?_
  refine At.callK 0 rfl (fun w hw hr => rsize_k _ _ _ w hr) Tryz.call31 rfl rfl ?_
  refine At.yes rfl rfl ?_
  refine At.val (Val.bin rfl rfl rfl) rfl rfl rfl ?_
  refine At.val (Val.pickF rfl rfl) rfl rfl rfl ?_
  refine tE ?_
  refine At.cond rfl (fun h2 => ?_) (fun h2 => ?_)
  ·skip
   try simp only [hasB, isSizeB, Bool.not_eq_true', Bool.not_eq_false', bne_iff_ne, ne_eq, bne_eq_false_iff_eq, beq_iff_eq, beq_eq_false_iff_ne, decide_eq_true_eq, decide_eq_false_iff_not, gt_iff_lt, ge_iff_le] at h2
   omega
  ·skip
   try simp only [hasB, isSizeB, Bool.not_eq_true', Bool.not_eq_false', bne_iff_ne, ne_eq, bne_eq_false_iff_eq, beq_iff_eq, beq_eq_false_iff_ne, decide_eq_true_eq, decide_eq_false_iff_not, gt_iff_lt, ge_iff_le] at h2
   refine At.skipC ?_
   refine At.thenN ?_
   refine tR ?_
   refine tM rfl rfl ?_
   refine At.callK 0 rfl (fun w hw hr => rstep_0 _ _ _ w hno hr) Tryz.call76 rfl rfl ?_
   refine tA rfl rfl ?_
   refine tE ?_
   refine At.seq ?_
   refine tR ?_
   refine tM rfl rfl ?_
   refine At.val (Val.bin rfl rfl rfl) rfl rfl rfl ?_
   refine tE ?_
   refine At.condT rfl ?_
   refine tR ?_
   refine tA rfl rfl ?_
   refine tE ?_
   refine At.retC ?_
   refine At.thenR ?_
   refine At.ret1 (.inl rfl) rfl rfl rfl (fun w hw => ?_)
   exact ⟨rfl, hw⟩
theorem rstore_d (p : Nat) (γ : Rg) (ρ : Rs) (k j : Nat) (l : Rl) (x : BitVec 64) (w : World) (hk : ρ.ls[k]? = some l) (hj : j < 8) (hs : ρ.now + 1 ≤ 1099511627776) (hno : ρ.left ≠ 0) (hd : (RDev p γ ρ).holds w) :
    RDevU Tryz.prog 26 [.pointer (some ⟨p, 0, none⟩), .int .i64 (8 * ((8 * k + j : Nat) : Int)), b64 x] p γ ρ (.int .i64 0) (storeL ρ k j l x) w := by
 refine enterRc hd Tryz.func26 rfl Tryz.ntmps26 rfl ?_
 obtain ⟨hQ, hg⟩ := RDev.facts hd
 have hln := hg.len
 have hps := hg.pos
 have hnw := hg.now
 have hkl := (List.getElem?_eq_some_iff.1 hk).1
 simp only [envOf]
 refine tR ?_
 refine tA rfl rfl ?_
 refine tE ?_
 refine tR ?_
 refine tM rfl rfl ?_
 refine tM rfl rfl ?_
 refine At.callK 0 rfl (fun w hw hr => (wrong_at (ρ := ρ) (K := 8 * k + j) (by omega)) ▸ wrong_k _ _ _ _ w hr) Tryz.call75 rfl rfl ?_
 refine tA rfl rfl ?_
 refine tE ?_
 refine At.seq ?_
 refine tR ?_
 refine tM rfl rfl ?_
 refine At.val (Val.bin rfl rfl rfl) rfl rfl rfl ?_
 refine tE ?_
 refine At.condF rfl ?_
 refine At.skipC ?_
 refine At.thenN ?_
 refine tR ?_
 refine tM rfl rfl ?_
 refine At.callRD 0 rfl (fun w hw hr => rstep_d _ _ _ w hs hno hr) Tryz.call76 rfl rfl (fun y1 => ?_)
 simp only [sc0, scS]
 refine tA rfl rfl ?_
 refine tE ?_
 refine At.seq ?_
 refine tR ?_
 refine tM rfl rfl ?_
 refine At.val (Val.bin rfl rfl rfl) rfl rfl rfl ?_
 refine tE ?_
 refine At.cond rfl (fun h2 => ?_) (fun h2 => ?_)
 ·skip
  try simp only [hasB, isSizeB, Bool.not_eq_true', Bool.not_eq_false', bne_iff_ne, ne_eq, bne_eq_false_iff_eq, beq_iff_eq, beq_eq_false_iff_ne, decide_eq_true_eq, decide_eq_false_iff_not, gt_iff_lt, ge_iff_le] at h2
  omega
 ·skip
  try simp only [hasB, isSizeB, Bool.not_eq_true', Bool.not_eq_false', bne_iff_ne, ne_eq, bne_eq_false_iff_eq, beq_iff_eq, beq_eq_false_iff_ne, decide_eq_true_eq, decide_eq_false_iff_not, gt_iff_lt, ge_iff_le] at h2
  refine At.skipC ?_
  refine At.thenN ?_
  refine At.seq ?_
  refine At.openS 0 rfl ?_
  simp only [rdevL, List.cons_append, List.nil_append, ec0, ecS]
  refine At.fact 3 rfl (fun hf => ?_)
  obtain ⟨hQ1, hg1⟩ := hf
  have h81 := first8_of hQ1 hg1
  have hQl1 : y1.Q.length = (stepR ρ).ls.length := by rw [← hQ1, List.length_map]
  obtain ⟨q, hq⟩ : ∃ q, y1.Q[k]? = some q := ⟨_, List.getElem?_eq_getElem (by rw [hQl1]; exact hkl)⟩
  have hlq := line_at hQ1 hq
  obtain rfl : l = q.1 := Option.some.inj (hk.symm.trans hlq)
  obtain ⟨hg11, hg12, hg13, hg14, hg15⟩ := hg1.line q.1 (List.mem_of_getElem? hlq)
  have hg13n := (hg.line q.1 (List.mem_of_getElem? hk)).2
  have hkQ : k < y1.Q.length := by rw [hQl1]; exact hkl
  refine At.region ?_
  refine tM rfl rfl ?_
  refine At.val (Val.nilCheck rfl) rfl rfl rfl ?_
  refine At.val (Val.field 0 rfl fo_50_0 rfl) rfl rfl rfl ?_
  refine At.val (Val.load (i := 0) Tryz.isAgg48 rfl rfl rfl) rfl rfl rfl ?_
  refine tM rfl rfl ?_
  refine At.val (Val.quoI rfl rfl (by omega) (by omega) (by decide)) rfl rfl rfl ?_
  rw [show 8 * ((8 * k + j : Nat) : Int) / 64 = (k : Int) from by omega]
  refine At.val (Val.indexRow (i := 1) (k * 10) (by omega) Tryz.underlying48 Tryz.sizeOf118 rfl rfl rfl (by omega) (by omega)) rfl rfl rfl ?_
  refine tA rfl rfl ?_
  refine tE ?_
  refine tR ?_
  refine tM rfl rfl ?_
  refine tM rfl rfl ?_
  refine At.val (Val.nilCheck rfl) rfl rfl rfl ?_
  refine At.val (Val.field ((k * 10 + 8)) rfl fo_118_1 rfl) rfl rfl rfl ?_
  refine At.val (Val.loadRow (i := 1) Tryz.isAgg116 rfl rfl (lC_puts h81 hq)) rfl rfl rfl ?_
  refine tM rfl rfl ?_
  refine At.val (Val.quoI rfl rfl (by omega) (by omega) (by decide)) rfl rfl rfl ?_
  rw [show 8 * ((8 * k + j : Nat) : Int) / 8 = ((8 * k + j : Nat) : Int) from by omega]
  refine At.val (Val.remI rfl rfl (by omega) (by decide)) rfl rfl rfl ?_
  rw [show ((8 * k + j : Nat) : Int) % 8 = (j : Int) from by omega]
  refine tM rfl rfl ?_
  refine tM rfl rfl ?_
  refine At.val (Val.build (fun a ha => by simp only [List.map_toArray, List.map_cons, List.map_nil, ha.eval (x := (.tmp 34)) rfl, ha.eval (x := (.tmp 35)) rfl, ha.eval (x := (.tmp 36)) rfl] <;> rfl) (bld_120_0_1_2 _ _ _ )) rfl rfl rfl ?_
  refine At.buildSl (fun a ha => by simp only [List.map_toArray, List.map_cons, List.map_nil, ha.eval (x := (.tmp 37)) rfl]; try rfl) (bs_116_1 _ _ _ ) rfl (fun b3 => ?_)
  refine At.focusL 3 rfl hq ?_
  simp only [ec0, ecS]
  refine At.appendPu (i := 0) (j := 3) (by_ := 24) (c := (j, x, ρ.now + 1)) Tryz.underlying116 info_120 rfl rfl rfl rfl rfl rfl rfl rfl rfl (by omega) (by omega) rfl (fun v4 => ?_)
  simp only [sc0, scS]
  refine At.drop 3 ?_
  simp only [ec0, ecS]
  refine At.val (Val.nilCheck rfl) rfl rfl rfl ?_
  refine At.val (Val.field ((k * 10 + 8)) rfl fo_118_1 rfl) rfl rfl rfl ?_
  refine At.rowOne (i := 0) rfl (fun ho => ?_)
  refine At.storeRow (i := 4) Tryz.sizeOf116 rfl rfl ho rfl (by rw [lC_length h81]; omega) ?_
  simp only [sc0, scS]
  rw [lC_setPuts (l' := { q.1 with puts := q.1.puts ++ [(j, x, ρ.now + 1)] }) h81 hq rfl]
  refine At.unfocusL (q' := ({ q.1 with puts := q.1.puts ++ [(j, x, ρ.now + 1)] }, v4, q.2.2)) hkQ ?_
  refine At.rot2 ?_
  refine tE ?_
  refine tR ?_
  refine tA rfl rfl ?_
  refine tE ?_
  refine At.retC ?_
  refine At.ret1 (.inl rfl) rfl rfl rfl (fun w hw => ?_)
  exact ⟨⟨y1.vl, y1.Q.set k ({ q.1 with puts := q.1.puts ++ [(j, x, ρ.now + 1)] }, v4, q.2.2)⟩, rfl, toRDev1 (by show (List.set _ _ _).map _ = List.set _ _ _; rw [List.map_set, hQ1]; rfl) (storeL_good hg hk hj hs) hw rfl (by rw [List.length_set]) rfl⟩
theorem rstore_0 (p : Nat) (γ : Rg) (ρ : Rs) (a : Int) (x : BitVec 64) (w : World) (ha : wrongE ρ a = 0) (hno : ρ.left = 0) (hd : (RDev p γ ρ).holds w) :
    Upd Tryz.prog 26 [.pointer (some ⟨p, 0, none⟩), .int .i64 a, b64 x] (RDev p γ ρ) (.int .i64 13) (RDev p γ ρ) w := by
 refine enterRc hd Tryz.func26 rfl Tryz.ntmps26 rfl ?_
 obtain ⟨hQ, hg⟩ := RDev.facts hd
 have hln := hg.len
 have hps := hg.pos
 have hnw := hg.now
 simp only [envOf]
 refine tR ?_
 refine tA rfl rfl ?_
 refine tE ?_
 refine tR ?_
 refine tM rfl rfl ?_
 refine tM rfl rfl ?_
 refine At.callK 0 rfl (fun w hw hr => ha ▸ wrong_k _ _ _ _ w hr) Tryz.call75 rfl rfl ?_
 refine tA rfl rfl ?_
 refine tE ?_
 refine At.seq ?_
 refine tR ?_
 refine tM rfl rfl ?_
 refine At.val (Val.bin rfl rfl rfl) rfl rfl rfl ?_
 refine tE ?_
 refine At.condF rfl ?_
 refine At.skipC ?_
 refine At.thenN ?_
 refine tR ?_
 refine tM rfl rfl ?_
 refine At.callK 0 rfl (fun w hw hr => rstep_0 _ _ _ w hno hr) Tryz.call76 rfl rfl ?_
 refine tA rfl rfl ?_
 refine tE ?_
 refine At.seq ?_
 refine tR ?_
 refine tM rfl rfl ?_
 refine At.val (Val.bin rfl rfl rfl) rfl rfl rfl ?_
 refine tE ?_
 refine At.condT rfl ?_
 refine tR ?_
 refine tA rfl rfl ?_
 refine tE ?_
 refine At.retC ?_
 refine At.thenR ?_
 refine At.ret1 (.inl rfl) rfl rfl rfl (fun w hw => ?_)
 exact ⟨rfl, hw⟩
theorem rstore_no (p : Nat) (γ : Rg) (ρ : Rs) (a : Int) (x : BitVec 64) (w : World) (ha : wrongE ρ a ≠ 0) (hd : (RDev p γ ρ).holds w) :
    Upd Tryz.prog 26 [.pointer (some ⟨p, 0, none⟩), .int .i64 a, b64 x] (RDev p γ ρ) (.int .i64 (wrongE ρ a)) (RDev p γ ρ) w := by
 refine enterRc hd Tryz.func26 rfl Tryz.ntmps26 rfl ?_
 obtain ⟨hQ, hg⟩ := RDev.facts hd
 have hln := hg.len
 have hps := hg.pos
 have hnw := hg.now
 simp only [envOf]
 refine tR ?_
 refine tA rfl rfl ?_
 refine tE ?_
 refine tR ?_
 refine tM rfl rfl ?_
 refine tM rfl rfl ?_
 refine At.callK 0 rfl (fun w hw hr => wrong_k _ _ _ _ w hr) Tryz.call75 rfl rfl ?_
 refine tA rfl rfl ?_
 refine tE ?_
 refine At.seq ?_
 refine tR ?_
 refine tM rfl rfl ?_
 refine At.val (Val.bin rfl rfl rfl) rfl rfl rfl ?_
 refine tE ?_
 refine At.cond rfl (fun h1 => ?_) (fun h1 => ?_)
 ·skip
  try simp only [hasB, isSizeB, Bool.not_eq_true', Bool.not_eq_false', bne_iff_ne, ne_eq, bne_eq_false_iff_eq, beq_iff_eq, beq_eq_false_iff_ne, decide_eq_true_eq, decide_eq_false_iff_not, gt_iff_lt, ge_iff_le] at h1
  refine tR ?_
  refine tM rfl rfl ?_
  refine tA rfl rfl ?_
  refine tE ?_
  refine At.retC ?_
  refine At.thenR ?_
  refine At.ret1 (.inl rfl) rfl rfl rfl (fun w hw => ?_)
  exact ⟨rfl, hw⟩
 ·skip
  try simp only [hasB, isSizeB, Bool.not_eq_true', Bool.not_eq_false', bne_iff_ne, ne_eq, bne_eq_false_iff_eq, beq_iff_eq, beq_eq_false_iff_ne, decide_eq_true_eq, decide_eq_false_iff_not, gt_iff_lt, ge_iff_le] at h1
  exact absurd h1 ha
theorem rnew_d (n : Int) (M : Nat) (w : World) (hn : isSizeB n = true) (hM : n = 64 * (M : Int)) :
    NewRDev Tryz.prog 8 [.int .i64 n] (zeroR M) w := by
 refine enter (feet []) [] Tryz.func8 rfl Tryz.ntmps8 rfl ⟨by simp, by simp, by simp, Mod.refl _ _⟩ ?_
 have hnn := hn
 unfold isSizeB at hnn
 rw [decide_eq_true_eq] at hnn
 simp only [envOf]
 refine tR ?_
 refine tA rfl rfl ?_
 refine tA rfl rfl ?_
 refine tE ?_
 refine At.seq ?_
 refine tR ?_
 refine tM rfl rfl ?_
 refine At.weaken [(0, _), (2, _), (3, _), (4, _)] (Sub.cons rfl (Sub.cons rfl (Sub.cons rfl (Sub.cons rfl Sub.nil)))) ?_
 refine At.boolMeet 10 14 (false) ?_ ?_
 ·skip
  simp only [List.take_succ_cons, List.take_zero]
  refine At.val (Val.bin rfl rfl rfl) rfl rfl rfl ?_
  refine tM rfl rfl ?_
  refine At.split (t := 6) rfl (fun h1 => ?_) (fun h1 => ?_)
  ·skip
   try simp only [hasB, isSizeB, Bool.not_eq_true', Bool.not_eq_false', bne_iff_ne, ne_eq, bne_eq_false_iff_eq, beq_iff_eq, beq_eq_false_iff_ne, decide_eq_true_eq, decide_eq_false_iff_not, gt_iff_lt, ge_iff_le] at h1
   refine At.no rfl rfl rfl rfl ?_
   refine At.no rfl rfl rfl rfl ?_
   refine At.val (Val.pickT rfl rfl) rfl rfl rfl ?_
   refine tM rfl rfl ?_
   refine At.no rfl rfl rfl rfl ?_
   refine At.no rfl rfl rfl rfl ?_
   refine At.no rfl rfl rfl rfl ?_
   refine At.val (Val.pickT rfl rfl) rfl rfl rfl ?_
   refine At.nil ?_
   exact At.boolEnd rfl (by first | exact (decide_eq_true (by omega)).symm | exact (decide_eq_false (by omega)).symm | (apply Bool.eq_iff_iff.2; simp only [decide_eq_true_eq, beq_iff_eq, bne_iff_ne, ne_eq, Bool.not_eq_true', decide_eq_false_iff_not]; omega) | rfl | (simp_all; done) | (simp_all; omega)) (by repeat (first | exact Sub.nil | refine Sub.cons rfl ?_))
  ·skip
   try simp only [hasB, isSizeB, Bool.not_eq_true', Bool.not_eq_false', bne_iff_ne, ne_eq, bne_eq_false_iff_eq, beq_iff_eq, beq_eq_false_iff_ne, decide_eq_true_eq, decide_eq_false_iff_not, gt_iff_lt, ge_iff_le] at h1
   refine At.yes rfl rfl ?_
   refine tM rfl rfl ?_
   refine At.yes rfl rfl ?_
   refine At.val (Val.bin rfl rfl rfl) rfl rfl rfl ?_
   refine At.val (Val.pickF rfl rfl) rfl rfl rfl ?_
   refine tM rfl rfl ?_
   refine At.split (t := 10) rfl (fun h2 => ?_) (fun h2 => ?_)
   ·skip
    try simp only [hasB, isSizeB, Bool.not_eq_true', Bool.not_eq_false', bne_iff_ne, ne_eq, bne_eq_false_iff_eq, beq_iff_eq, beq_eq_false_iff_ne, decide_eq_true_eq, decide_eq_false_iff_not, gt_iff_lt, ge_iff_le] at h2
    refine At.no rfl rfl rfl rfl ?_
    refine At.no rfl rfl rfl rfl ?_
    refine At.no rfl rfl rfl rfl ?_
    refine At.val (Val.pickT rfl rfl) rfl rfl rfl ?_
    refine At.nil ?_
    exact At.boolEnd rfl (by first | exact (decide_eq_true (by omega)).symm | exact (decide_eq_false (by omega)).symm | (apply Bool.eq_iff_iff.2; simp only [decide_eq_true_eq, beq_iff_eq, bne_iff_ne, ne_eq, Bool.not_eq_true', decide_eq_false_iff_not]; omega) | rfl | (simp_all; done) | (simp_all; omega)) (by repeat (first | exact Sub.nil | refine Sub.cons rfl ?_))
   ·skip
    try simp only [hasB, isSizeB, Bool.not_eq_true', Bool.not_eq_false', bne_iff_ne, ne_eq, bne_eq_false_iff_eq, beq_iff_eq, beq_eq_false_iff_ne, decide_eq_true_eq, decide_eq_false_iff_not, gt_iff_lt, ge_iff_le] at h2
    refine At.yes rfl rfl ?_
    refine tM rfl rfl ?_
    refine At.yes rfl rfl ?_
    first | refine At.val (Val.remI rfl rfl (by omega) (by decide)) rfl rfl rfl ?_ | refine At.val (Val.rem rfl rfl (by decide)) rfl rfl rfl ?_
    refine At.yes rfl rfl ?_
    refine At.val (Val.bin rfl rfl rfl) rfl rfl rfl ?_
    refine At.val (Val.pickF rfl rfl) rfl rfl rfl ?_
    refine At.nil ?_
    exact At.boolEnd rfl (by first | exact (decide_eq_true (by omega)).symm | exact (decide_eq_false (by omega)).symm | (apply Bool.eq_iff_iff.2; simp only [decide_eq_true_eq, beq_iff_eq, bne_iff_ne, ne_eq, Bool.not_eq_true', decide_eq_false_iff_not]; omega) | rfl | (simp_all; done) | (simp_all; omega)) (by repeat (first | exact Sub.nil | refine Sub.cons rfl ?_))
 ·skip
  simp only [List.drop_succ_cons, List.drop_zero]
  refine tE ?_
  refine At.cond rfl (fun h3 => ?_) (fun h3 => ?_)
  ·skip
   try simp only [hasB, isSizeB, Bool.not_eq_true', Bool.not_eq_false', bne_iff_ne, ne_eq, bne_eq_false_iff_eq, beq_iff_eq, beq_eq_false_iff_ne, decide_eq_true_eq, decide_eq_false_iff_not, gt_iff_lt, ge_iff_le] at h3
   cases h3
  ·skip
   try simp only [hasB, isSizeB, Bool.not_eq_true', Bool.not_eq_false', bne_iff_ne, ne_eq, bne_eq_false_iff_eq, beq_iff_eq, beq_eq_false_iff_ne, decide_eq_true_eq, decide_eq_false_iff_not, gt_iff_lt, ge_iff_le] at h3
   refine At.skipC ?_
   refine At.thenN ?_
   refine tR ?_
   refine tM rfl rfl ?_
   refine At.val (Val.quoI rfl rfl (by omega) (by omega) (by decide)) rfl rfl rfl ?_
   rw [show n / 64 = (M : Int) from by omega]
   rw [hM]
   refine At.makeRow (n := M) Tryz.underlying48 info_118 rfl rfl (made_lines M) rfl rfl (Nat.le_trans (Nat.mul_le_mul_left _ (show M ≤ 8192 by omega)) (show (Tryz.t118).bytes * 8192 ≤ 281474976710656 by decide +kernel)) (by omega) rfl (fun v4 => ?_)
   refine At.rowIs (i := 0) rfl (fun A5 c6 hv7 => ?_)
   subst hv7
   refine At.val (Val.build (fun a ha => by simp only [List.map_toArray, List.map_cons, List.map_nil, ha.eval (x := (.tmp 17)) rfl, ha.eval (x := (.const (.int .i64 (-1)))) rfl] <;> rfl) (bld_50_0_3 _ _ _ _ )) rfl rfl rfl ?_
   refine At.box rfl rfl rfl (fun b8 => ?_)
   refine tA rfl rfl ?_
   refine tA rfl rfl ?_
   refine At.nil ?_
   refine At.famNone (ls := List.replicate M zL) (fun l hl => by obtain rfl := (List.mem_replicate.1 hl).2; exact ⟨rfl, rfl⟩) ?_
   refine At.rot2 ?_
   refine At.thenN ?_
   refine At.retC ?_
   refine At.ret2 (.inl rfl) rfl rfl rfl rfl (fun w hw => ?_)
   exact ⟨_, ⟨(.slice A5 M c6), nilQ (List.replicate M zL)⟩, rfl, toRDev1 (nilQ_fst _) (zeroR_good (by omega) (by omega)) hw rfl (by rw [nilQ_len, List.length_replicate]; rfl) rfl⟩
theorem rWord_k (p : Nat) (γ : Rg) (ρ : Rs) (k j : Nat) (l : Rl) (v0 : BitVec 64) (w : World) (hk : ρ.ls[k]? = some l) (hj : j < 8) (hv0 : l.first[j]? = some v0) (hd : (RDev p γ ρ).holds w) :
    Upd Tryz.prog 55 [.pointer (some ⟨p, 0, none⟩), .int .i64 (8 * ((8 * k + j : Nat) : Int))] (RDev p γ ρ) (.tuple #[b64 (nowF j v0 l.puts), .int .i64 0]) (RDev p γ ρ) w := by
 refine enterRc hd Tryz.func55 rfl Tryz.ntmps55 rfl ?_
 obtain ⟨hQ, hg⟩ := RDev.facts hd
 have hln := hg.len
 have hps := hg.pos
 have hnw := hg.now
 have hkl := (List.getElem?_eq_some_iff.1 hk).1
 simp only [envOf]
 refine tR ?_
 refine tA rfl rfl ?_
 refine tA rfl rfl ?_
 refine tE ?_
 refine tR ?_
 refine tM rfl rfl ?_
 refine tM rfl rfl ?_
 refine At.callK 0 rfl (fun w hw hr => (wrong_at (ρ := ρ) (K := 8 * k + j) (by omega)) ▸ wrong_k _ _ _ _ w hr) Tryz.call75 rfl rfl ?_
 refine tA rfl rfl ?_
 refine tE ?_
 refine At.seq ?_
 refine tR ?_
 refine tM rfl rfl ?_
 refine At.val (Val.bin rfl rfl rfl) rfl rfl rfl ?_
 refine tE ?_
 refine At.condF rfl ?_
 refine At.skipC ?_
 refine At.thenN ?_
 refine tR ?_
 refine tM rfl rfl ?_
 refine tM rfl rfl ?_
 refine At.callK 0 rfl (fun w hw hr => rnow_k _ _ _ k j l v0 w hk hj hv0 hr) Tryz.call62 rfl rfl ?_
 refine tA rfl rfl ?_
 refine tE ?_
 refine tR ?_
 refine tM rfl rfl ?_
 refine tA rfl rfl ?_
 refine tA rfl rfl ?_
 refine tE ?_
 refine At.retC ?_
 refine At.ret2 (.inl rfl) rfl rfl rfl rfl (fun w hw => ?_)
 exact ⟨rfl, hw⟩
end Go.Proofs.YthhkbbodhghmcaaGreatDoor
set_option linter.unusedVariables false
set_option linter.unusedSimpArgs false
namespace Go.Proofs.YthhkbbodhghmcaaGreatDoor
open Go Go.Wk
theorem fold_last {α β : Type} (p : α → Bool) (f : α → β) : ∀ (l : List α) (v0 : β), l.foldl (fun o c => if p c = true then f c else o) v0 = ((l.filter p).getLast?.map f).getD v0
  | [], v0 => rfl
  | c :: l, v0 => by
    rw [List.foldl_cons, fold_last p f l]
    cases h : p c with
    | true =>
      rw [List.filter_cons_of_pos h, if_pos rfl, List.getLast?_cons]
      cases (l.filter p).getLast? <;> rfl
    | false =>
      rw [List.filter_cons_of_neg (by rw [h]; simp), if_neg (by simp)]
abbrev Put := Nat × BitVec 64 × Nat
def pj (j : Nat) (l : List Put) : List (BitVec 64 × Nat) := (l.filter fun c => decide (c.1 = j)).map Prod.snd
theorem pj_yes {j : Nat} {l : List Put} {c : Put} (h : c.1 = j) : pj j (l ++ [c]) = pj j l ++ [c.2] := by
  unfold pj; rw [List.filter_append, List.map_append, List.filter_cons_of_pos (p := fun c : Put => decide (c.1 = j)) (decide_eq_true h), List.filter_nil]; rfl
theorem pj_no {j : Nat} {l : List Put} {c : Put} (h : c.1 ≠ j) : pj j (l ++ [c]) = pj j l := by
  unfold pj; rw [List.filter_append, List.map_append, List.filter_cons_of_neg (by rw [decide_eq_false h]; simp), List.filter_nil]; exact List.append_nil _
theorem pj_mem {j : Nat} {l : List Put} {x : BitVec 64 × Nat} (h : x ∈ pj j l) : ∃ c ∈ l, c.2 = x := by
  unfold pj at h
  obtain ⟨c, hc, rfl⟩ := List.mem_map.1 h
  exact ⟨c, (List.mem_filter.1 hc).1, rfl⟩
theorem pj_filter (j : Nat) (l : List Put) (p : BitVec 64 × Nat → Bool) : (pj j l).filter p = (l.filter fun c => decide (c.1 = j) && p c.2).map Prod.snd := by
  unfold pj
  rw [List.filter_map, List.filter_filter]
  congr 1
  apply List.filter_congr
  intro c _
  exact Bool.and_comm _ _
theorem map_last {α β : Type} (f : α → β) (l : List α) : (l.map f).getLast? = l.getLast?.map f := List.getLast?_map ..
theorem oldF_pj (j t : Nat) (v0 : BitVec 64) (l : List Put) : oldF j t v0 l = (((pj j l).filter fun x => decide (x.2 < t)).getLast?.map Prod.fst).getD v0 := by
  have h := fold_last (fun c : Put => decide (c.1 = j) && decide (c.2.2 < t)) (fun c => c.2.1) l v0
  rw [pj_filter, map_last, Option.map_map]
  show oldF j t v0 l = ((l.filter fun c => decide (c.1 = j) && decide (c.2.2 < t)).getLast?.map (fun c => c.2.1)).getD v0
  rw [← h]
  unfold oldF
  congr 1
  funext o c
  simp only [Bool.and_eq_true, decide_eq_true_eq]
theorem nowF_pj (j : Nat) (v0 : BitVec 64) (l : List Put) : nowF j v0 l = ((pj j l).getLast?.map Prod.fst).getD v0 := by
  have h := fold_last (fun c : Put => decide (c.1 = j)) (fun c => c.2.1) l v0
  unfold pj
  rw [map_last, Option.map_map]
  show nowF j v0 l = ((l.filter fun c => decide (c.1 = j)).getLast?.map (fun c => c.2.1)).getD v0
  rw [← h]
  unfold nowF
  congr 1
  funext o c
  simp only [decide_eq_true_eq]
theorem newsF_pj (j t : Nat) (l : List Put) : newsF j t l = ((pj j l).filter fun x => decide (¬ x.2 < t)).map Prod.fst := by
  rw [pj_filter, List.map_map]
  unfold newsF
  congr 1
  apply List.filter_congr
  intro c _
  rw [Bool.eq_iff_iff]; simp only [Bool.and_eq_true, decide_eq_true_eq]
def lastF (fl : List Nat) : Nat := fl.getLast?.getD 0
theorem lastF_snoc (fl : List Nat) (x : Nat) : lastF (fl ++ [x]) = x := by simp [lastF]
theorem setF_all : ∀ (fl : List Nat) (F : Nat), (∀ t ∈ fl, t < F) → setF F fl = lastF fl := by
  intro fl F h
  have := fold_last (fun x : Nat => decide (x < F)) (fun x => x) fl 0
  have e : setF F fl = fl.foldl (fun o c => if decide (c < F) = true then c else o) 0 := by unfold setF; congr 1; funext o c; simp only [decide_eq_true_eq]
  rw [e, this, List.filter_eq_self.2 (fun x hx => decide_eq_true (h x hx)), Option.map_id']; rfl
/-- A word of the one device is a word's history of the other. -/
def SimW (t f : Nat) (P : List (BitVec 64 × Nat)) (v0 : BitVec 64) (w : Wd) : Prop :=
  ∃ A B C, P = A ++ (B ++ C) ∧ (∀ x ∈ A, x.2 < t) ∧ (∀ x ∈ B, t ≤ x.2 ∧ x.2 < f) ∧ (∀ x ∈ C, t ≤ x.2 ∧ f ≤ x.2) ∧ w.old = (A.getLast?.map Prod.fst).getD v0 ∧ w.news = (B ++ C).map Prod.fst ∧ w.mark = B.length
theorem simW_push {t f T : Nat} {P : List (BitVec 64 × Nat)} {v0 x : BitVec 64} {w : Wd} (h : SimW t f P v0 w) (h1 : t ≤ T) (h2 : f ≤ T) : SimW t f (P ++ [(x, T)]) v0 (pushW w x) := by
  obtain ⟨A, B, C, rfl, hA, hB, hC, ho, hn, hm⟩ := h
  refine ⟨A, B, C ++ [(x, T)], by simp, hA, hB, fun y hy => ?_, ho, ?_, hm⟩
  · rcases List.mem_append.1 hy with hy | hy
    · exact hC y hy
    · rw [List.mem_singleton.1 hy]; exact ⟨h1, h2⟩
  · show w.news ++ [x] = _
    rw [hn]; simp
theorem simW_flush {t f T : Nat} {P : List (BitVec 64 × Nat)} {v0 : BitVec 64} {w : Wd} (h : SimW t f P v0 w) (hP : ∀ y ∈ P, y.2 < T) : SimW t T P v0 (markW w) := by
  obtain ⟨A, B, C, rfl, hA, hB, hC, ho, hn, hm⟩ := h
  refine ⟨A, B ++ C, [], by simp, hA, fun y hy => ?_, by simp, ho, by rw [List.append_nil]; exact hn, ?_⟩
  · refine ⟨?_, hP y (List.mem_append_right _ hy)⟩
    rcases List.mem_append.1 hy with hy | hy
    · exact (hB y hy).1
    · exact (hC y hy).1
  · show w.news.length = _
    rw [hn, List.length_map]
theorem simW_fence {t f : Nat} {P : List (BitVec 64 × Nat)} {v0 : BitVec 64} {w : Wd} (h : SimW t f P v0 w) (htf : t ≤ f) : SimW f f P v0 (fenceW w) := by
  obtain ⟨A, B, C, rfl, hA, hB, hC, ho, hn, hm⟩ := h
  refine ⟨A ++ B, [], C, by simp, fun y hy => ?_, by simp, fun y hy => ⟨(hC y hy).2, (hC y hy).2⟩, ?_, ?_, ?_⟩
  · rcases List.mem_append.1 hy with hy | hy
    · exact Nat.lt_of_lt_of_le (hA y hy) htf
    · exact (hB y hy).2
  · unfold fenceW
    split
    · have : B = [] := List.eq_nil_of_length_eq_zero (by omega)
      subst this; rw [List.append_nil]; exact ho
    · rename_i h0
      have hBn : B ≠ [] := fun e => h0 (by rw [hm, e]; rfl)
      obtain ⟨b, hb⟩ : ∃ b, B.getLast? = some b := ⟨_, List.getLast?_eq_some_getLast hBn⟩
      have hw : w.news[w.mark - 1]? = some b.1 := by
        rw [hn, hm, List.map_append, List.getElem?_append_left (by rw [List.length_map]; have := List.length_pos_iff.2 hBn; omega), List.getElem?_map, ← List.getLast?_eq_getElem?, hb]; rfl
      simp only [hw, Option.getD_some]
      rw [List.getLast?_append, hb]; rfl
  · unfold fenceW
    split
    · have : B = [] := List.eq_nil_of_length_eq_zero (by omega)
      subst this; exact hn
    · show w.news.drop w.mark = _
      rw [hn, hm, List.map_append, List.drop_left' (by rw [List.length_map])]; rfl
  · unfold fenceW
    split
    · assumption
    · rfl
theorem simW_eval {t f j : Nat} {l : List Put} {v0 : BitVec 64} {w : Wd} (h : SimW t f (pj j l) v0 w) : oldF j t v0 l = w.old ∧ newsF j t l = w.news ∧ nowF j v0 l = nowW w := by
  obtain ⟨A, B, C, hP, hA, hB, hC, ho, hn, hm⟩ := h
  have e1 : (A ++ (B ++ C)).filter (fun x => decide (x.2 < t)) = A := by
    rw [List.filter_append, List.filter_eq_self.2 (fun x hx => decide_eq_true (hA x hx)), List.filter_eq_nil_iff.2 (fun x hx => ?_), List.append_nil]
    rcases List.mem_append.1 hx with h | h
    · have := (hB x h).1; simp only [decide_eq_true_eq]; omega
    · have := (hC x h).1; simp only [decide_eq_true_eq]; omega
  have e2 : (A ++ (B ++ C)).filter (fun x => decide (¬ x.2 < t)) = B ++ C := by
    rw [List.filter_append, List.filter_eq_nil_iff.2 (fun x hx => ?_), List.nil_append, List.filter_eq_self.2 (fun x hx => ?_)]
    · rcases List.mem_append.1 hx with h | h
      · have := (hB x h).1; simp only [decide_eq_true_eq]; omega
      · have := (hC x h).1; simp only [decide_eq_true_eq]; omega
    · have := hA x hx; simp only [decide_eq_true_eq]; omega
  refine ⟨by rw [oldF_pj, hP, e1, ho], by rw [newsF_pj, hP, e2, hn], ?_⟩
  rw [nowF_pj, hP]
  unfold nowW
  rw [hn, map_last, ho, List.getLast?_append]
  cases (B ++ C).getLast? <;> rfl
structure Sim (σ : Ds) (ρ : Rs) : Prop where
  len : σ.ws.length = 8 * ρ.ls.length
  now : σ.steps = ρ.now
  left : ρ.left = if σ.armed = true then (σ.left : Int) else -1
  fen : ρ.fenced ≤ ρ.now
  line : ∀ (k : Nat) (l : Rl), ρ.ls[k]? = some l → setF ρ.fenced l.fl ≤ lastF l.fl ∧ lastF l.fl ≤ ρ.now ∧ (∀ c ∈ l.puts, c.2.2 ≤ ρ.now) ∧ (∀ t ∈ l.fl, t ≤ ρ.now) ∧ l.first.length = 8 ∧
    ∀ j, j < 8 → ∃ v0 w, l.first[j]? = some v0 ∧ σ.ws[8 * k + j]? = some w ∧ SimW (setF ρ.fenced l.fl) (lastF l.fl) (pj j l.puts) v0 w
theorem Sim.dead {σ : Ds} {ρ : Rs} (h : Sim σ ρ) : deadB σ = decide (ρ.left = 0) := by
  unfold deadB
  rw [h.left]
  cases σ.armed with
  | true => simp
  | false => simp
theorem Sim.alive {σ : Ds} {ρ : Rs} (h : Sim σ ρ) (hd : deadB σ = false) : ρ.left ≠ 0 := by rw [h.dead] at hd; exact of_decide_eq_false hd
theorem Sim.isdead {σ : Ds} {ρ : Rs} (h : Sim σ ρ) (hd : deadB σ = true) : ρ.left = 0 := by rw [h.dead] at hd; exact of_decide_eq_true hd
theorem Sim.has {σ : Ds} {ρ : Rs} (h : Sim σ ρ) (a n : Int) : hasR ρ a n = hasB σ a n := by unfold hasR hasB; rw [h.len]; congr 1; rw [eq_iff_iff]; omega
theorem Sim.wrong {σ : Ds} {ρ : Rs} (h : Sim σ ρ) (a : Int) : wrongE ρ a = placeE σ a := by unfold wrongE placeE; rw [h.len, show 8 * ((8 * ρ.ls.length : Nat) : Int) = 64 * (ρ.ls.length : Int) by omega]
theorem Sim.stepLeft {σ : Ds} {ρ : Rs} (h : Sim σ ρ) (hd : deadB σ = false) : (stepR ρ).left = if (stepD σ).armed = true then ((stepD σ).left : Int) else -1 := by
  have h0 := h.alive hd
  have hl := h.left
  unfold stepR stepD
  simp only
  cases ha : σ.armed with
  | true =>
    rw [ha] at hl
    simp only [if_true] at hl ⊢
    split <;> omega
  | false =>
    rw [ha] at hl
    simp only [Bool.false_eq_true, if_false] at hl ⊢
    rw [hl]; rfl
theorem Sim.at {σ : Ds} {ρ : Rs} (h : Sim σ ρ) {K : Nat} (hK : K < σ.ws.length) : ∃ l v0 w, ρ.ls[K / 8]? = some l ∧ l.first[K % 8]? = some v0 ∧ σ.ws[K]? = some w ∧ SimW (setF ρ.fenced l.fl) (lastF l.fl) (pj (K % 8) l.puts) v0 w := by
  have hl := h.len
  obtain ⟨l, hk⟩ : ∃ l, ρ.ls[K / 8]? = some l := ⟨_, List.getElem?_eq_getElem (by omega)⟩
  obtain ⟨_, _, _, _, _, h6⟩ := h.line _ l hk
  obtain ⟨v0, w, h1, h2, h3⟩ := h6 (K % 8) (by omega)
  exact ⟨l, v0, w, hk, h1, by rwa [show 8 * (K / 8) + K % 8 = K by omega] at h2, h3⟩
theorem Sim.store {σ : Ds} {ρ : Rs} {k j : Nat} {l : Rl} {w : Wd} {x : BitVec 64} (h : Sim σ ρ) (hd : deadB σ = false) (hk : ρ.ls[k]? = some l) (hj : j < 8) (hw : σ.ws[8 * k + j]? = some w) : Sim (setD (stepD σ) (8 * k + j) (pushW w x)) (storeL ρ k j l x) := by
  refine ⟨?_, by show σ.steps + 1 = ρ.now + 1; rw [h.now], h.stepLeft hd, Nat.le_succ_of_le h.fen, fun i m hm => ?_⟩
  · show (List.set _ _ _).length = 8 * (List.set _ _ _).length
    rw [List.length_set, List.length_set]; exact h.len
  · have hm' : (ρ.ls.set k { l with puts := l.puts ++ [(j, x, ρ.now + 1)] })[i]? = some m := hm
    by_cases e : k = i
    · subst e
      rw [List.getElem?_set_self (List.getElem?_eq_some_iff.1 hk).1] at hm'
      obtain rfl := Option.some.inj hm'
      obtain ⟨h1, h2, h3, h4, h5, h6⟩ := h.line k l hk
      refine ⟨h1, Nat.le_succ_of_le h2, fun c hc => ?_, fun t ht => Nat.le_succ_of_le (h4 t ht), h5, fun j' hj' => ?_⟩
      · rcases List.mem_append.1 hc with hc | hc
        · exact Nat.le_succ_of_le (h3 c hc)
        · rw [List.mem_singleton.1 hc]; exact Nat.le_refl _
      · obtain ⟨v0, u, g1, g2, g3⟩ := h6 j' hj'
        by_cases ej : j = j'
        · subst ej
          rw [hw] at g2
          obtain rfl := Option.some.inj g2
          exact ⟨v0, _, g1, setD_self (σ := stepD σ) hw, by show SimW _ _ (pj j (l.puts ++ [(j, x, ρ.now + 1)])) v0 _; rw [pj_yes (c := (j, x, ρ.now + 1)) rfl]; exact simW_push g3 (show setF ρ.fenced l.fl ≤ ρ.now + 1 by omega) (Nat.le_succ_of_le h2)⟩
        · exact ⟨v0, u, g1, setD_at (σ := stepD σ) g2 (by omega), by show SimW _ _ (pj j' (l.puts ++ [(j, x, ρ.now + 1)])) v0 _; rw [pj_no (c := (j, x, ρ.now + 1)) ej]; exact g3⟩
    · rw [List.getElem?_set_ne e] at hm'
      obtain ⟨h1, h2, h3, h4, h5, h6⟩ := h.line i m hm'
      refine ⟨h1, Nat.le_succ_of_le h2, fun c hc => Nat.le_succ_of_le (h3 c hc), fun t ht => Nat.le_succ_of_le (h4 t ht), h5, fun j' hj' => ?_⟩
      obtain ⟨v0, u, g1, g2, g3⟩ := h6 j' hj'
      exact ⟨v0, u, g1, setD_at (σ := stepD σ) g2 (by omega), g3⟩
theorem Sim.flush {σ : Ds} {ρ : Rs} {k : Nat} {l : Rl} (h : Sim σ ρ) (hd : deadB σ = false) (hk : ρ.ls[k]? = some l) : Sim (lineD σ k) (flushL ρ k l) := by
  have hr := lineD_rest σ k
  have hkR := flushK_rest (stepD σ) (8 * k) 8
  refine ⟨?_, by rw [hr.1]; show σ.steps + 1 = ρ.now + 1; rw [h.now], ?_, Nat.le_succ_of_le h.fen, fun i m hm => ?_⟩
  · show _ = 8 * (List.set _ _ _).length
    rw [List.length_set, hr.2.2]; exact h.len
  · have := h.stepLeft hd
    show (stepR ρ).left = _
    rw [this, show (lineD σ k).armed = (stepD σ).armed from hkR.2.1, show (lineD σ k).left = (stepD σ).left from hkR.2.2.1]
  · have hm' : (ρ.ls.set k { l with fl := l.fl ++ [ρ.now + 1] })[i]? = some m := hm
    by_cases e : k = i
    · subst e
      rw [List.getElem?_set_self (List.getElem?_eq_some_iff.1 hk).1] at hm'
      obtain rfl := Option.some.inj hm'
      obtain ⟨h1, h2, h3, h4, h5, h6⟩ := h.line k l hk
      have hf := h.fen
      have e1 : setF ρ.fenced (l.fl ++ [ρ.now + 1]) = setF ρ.fenced l.fl := by rw [setF_snoc, if_neg (by omega)]
      refine ⟨?_, ?_, fun c hc => Nat.le_succ_of_le (h3 c hc), fun t ht => ?_, h5, fun j' hj' => ?_⟩
      · show setF ρ.fenced (l.fl ++ [ρ.now + 1]) ≤ lastF (l.fl ++ [ρ.now + 1])
        rw [e1, lastF_snoc]; omega
      · show lastF (l.fl ++ [ρ.now + 1]) ≤ ρ.now + 1
        rw [lastF_snoc]; exact Nat.le_refl _
      · rcases List.mem_append.1 ht with ht | ht
        · exact Nat.le_succ_of_le (h4 t ht)
        · rw [List.mem_singleton.1 ht]; exact Nat.le_refl _
      · obtain ⟨v0, u, g1, g2, g3⟩ := h6 j' hj'
        obtain ⟨mm, q1, q2, _⟩ := flushK_at (σ := stepD σ) (f := 8 * k) g2 8
        refine ⟨v0, _, g1, q1, ?_⟩
        show SimW (setF ρ.fenced (l.fl ++ [ρ.now + 1])) (lastF (l.fl ++ [ρ.now + 1])) (pj j' l.puts) v0 _
        rw [e1, lastF_snoc, q2 (by omega) (by omega)]
        refine simW_flush g3 (fun y hy => ?_)
        obtain ⟨c, hc, rfl⟩ := pj_mem hy
        exact Nat.lt_succ_of_le (h3 c hc)
    · rw [List.getElem?_set_ne e] at hm'
      obtain ⟨h1, h2, h3, h4, h5, h6⟩ := h.line i m hm'
      refine ⟨h1, Nat.le_succ_of_le h2, fun c hc => Nat.le_succ_of_le (h3 c hc), fun t ht => Nat.le_succ_of_le (h4 t ht), h5, fun j' hj' => ?_⟩
      obtain ⟨v0, u, g1, g2, g3⟩ := h6 j' hj'
      obtain ⟨mm, q1, _, q3⟩ := flushK_at (σ := stepD σ) (f := 8 * k) g2 8
      exact ⟨v0, _, g1, q1, by rw [q3 (by omega)]; exact g3⟩
theorem Sim.fence {σ : Ds} {ρ : Rs} (h : Sim σ ρ) (hd : deadB σ = false) : Sim (fenceD (stepD σ)) (fenceR ρ) := by
  refine ⟨by show (List.map _ _).length = _; rw [List.length_map]; exact h.len, by show σ.steps + 1 = ρ.now + 1; rw [h.now], h.stepLeft hd, Nat.le_refl _, fun i m hm => ?_⟩
  obtain ⟨h1, h2, h3, h4, h5, h6⟩ := h.line i m hm
  have e1 : setF (ρ.now + 1) m.fl = lastF m.fl := setF_all _ _ fun t ht => Nat.lt_succ_of_le (h4 t ht)
  refine ⟨by show setF (ρ.now + 1) m.fl ≤ _; rw [e1]; exact Nat.le_refl _, Nat.le_succ_of_le h2, fun c hc => Nat.le_succ_of_le (h3 c hc), fun t ht => Nat.le_succ_of_le (h4 t ht), h5, fun j' hj' => ?_⟩
  obtain ⟨v0, u, g1, g2, g3⟩ := h6 j' hj'
  refine ⟨v0, _, g1, fenceD_at (σ := stepD σ) g2, ?_⟩
  show SimW (setF (ρ.now + 1) m.fl) _ _ _ _
  rw [e1]
  exact simW_fence g3 h1
theorem Sim.arm {σ : Ds} {ρ : Rs} (h : Sim σ ρ) (m : Nat) : Sim (armD σ m) (armR ρ m) := ⟨h.len, h.now, by show (m : Int) = _; simp [armD], h.fen, h.line⟩
theorem sim_start (ls : List Rl) (ws : List Wd) (hl : ws.length = 8 * ls.length) (h : ∀ (k : Nat) (l : Rl), ls[k]? = some l → l.puts = [] ∧ l.fl = [] ∧ l.first.length = 8 ∧ ∀ j, j < 8 → ∃ v0, l.first[j]? = some v0 ∧ ws[8 * k + j]? = some ⟨v0, [], 0⟩) : Sim ⟨ws, 0, false, 0⟩ ⟨ls, 0, 0, -1⟩ := by
  refine ⟨hl, rfl, rfl, Nat.le_refl _, fun k l hk => ?_⟩
  obtain ⟨h1, h2, h3, h4⟩ := h k l hk
  refine ⟨by rw [h2]; exact Nat.le_refl _, by rw [h2]; exact Nat.le_refl _, by rw [h1]; simp, by rw [h2]; simp, h3, fun j hj => ?_⟩
  obtain ⟨v0, g1, g2⟩ := h4 j hj
  exact ⟨v0, _, g1, g2, [], [], [], by rw [h1]; rfl, by simp, by simp, by simp, rfl, rfl, rfl⟩
theorem sim_zero (M : Nat) : Sim (zeroD (8 * M)) (zeroR M) := by
  refine sim_start _ _ (by simp [wz]) fun k l hk => ?_
  have hkl := (List.getElem?_eq_some_iff.1 hk).1
  obtain rfl := (List.mem_replicate.1 (List.mem_of_getElem? hk)).2
  rw [List.length_replicate] at hkl
  refine ⟨rfl, rfl, rfl, fun j hj => ⟨0, by unfold zL; simp only; rw [List.getElem?_replicate, if_pos hj], ?_⟩⟩
  unfold wz; rw [List.getElem?_replicate, if_pos (by omega)]; rfl
def lineR (l : List UInt8) (k : Nat) : Rl := ⟨(List.range 8).map fun j => wdA l (8 * (8 * k + j)), [], []⟩
def loadR (l : List UInt8) (M : Nat) : Rs := ⟨(List.range M).map (lineR l), 0, 0, -1⟩
theorem sim_load {l : List UInt8} {M : Nat} (hl : l.length = 64 * M) : Sim (loadD l) (loadR l M) := by
  refine sim_start _ _ (by unfold loadWs; simp only [List.length_map, List.length_range]; omega) fun k m hk => ?_
  rw [List.getElem?_map] at hk
  have hkM : k < M := by
    rcases Nat.lt_or_ge k M with h | h
    · exact h
    · rw [List.getElem?_eq_none (by rw [List.length_range]; exact h)] at hk; cases hk
  rw [List.getElem?_range hkM] at hk
  obtain rfl := Option.some.inj hk
  refine ⟨rfl, rfl, by simp [lineR], fun j hj => ⟨wdA l (8 * (8 * k + j)), by unfold lineR; simp only; rw [List.getElem?_map, List.getElem?_range hj]; rfl, ?_⟩⟩
  exact loadWs_at (by omega)
end Go.Proofs.YthhkbbodhghmcaaGreatDoor
set_option linter.unusedVariables false
set_option linter.unusedSimpArgs false
namespace Go.Proofs.YthhkbbodhghmcaaGreatDoor
open Go Go.Wk
theorem K_split (K : Nat) : 8 * ((8 * (K / 8) + K % 8 : Nat) : Int) = 8 * (K : Int) := by omega
theorem rnow_s (p : Nat) (γ : Rg) (ρ : Rs) (σ : Ds) (K : Nat) (wd : Wd) (w : World) (hsim : Sim σ ρ) (hk : σ.ws[K]? = some wd) (hd : (RDev p γ ρ).holds w) : Upd Tryz.prog 62 [.pointer (some ⟨p, 0, none⟩), .int .i64 (8 * (K : Int))] (RDev p γ ρ) (b64 (nowW wd)) (RDev p γ ρ) w := by
  obtain ⟨l, v0, u, h1, h2, h3, h4⟩ := hsim.at (List.getElem?_eq_some_iff.1 hk).1
  obtain rfl := Option.some.inj (hk.symm.trans h3)
  have := rnow_k p γ ρ (K / 8) (K % 8) l v0 w h1 (Nat.mod_lt _ (by decide)) h2 hd
  rwa [K_split, (simW_eval h4).2.2] at this
theorem rword_s (p : Nat) (γ : Rg) (ρ : Rs) (σ : Ds) (K : Nat) (wd : Wd) (w : World) (hsim : Sim σ ρ) (hk : σ.ws[K]? = some wd) (hd : (RDev p γ ρ).holds w) : RowKT Tryz.prog 64 [.pointer (some ⟨p, 0, none⟩), .int .i64 (8 * (K : Int))] (RDev p γ ρ) (fun v' => .tuple #[b64 wd.old, v']) tW 1 wd.news.length (wd.news.map b64) w := by
  obtain ⟨l, v0, u, h1, h2, h3, h4⟩ := hsim.at (List.getElem?_eq_some_iff.1 hk).1
  obtain rfl := Option.some.inj (hk.symm.trans h3)
  have := rword_k p γ ρ (K / 8) (K % 8) l v0 w h1 (Nat.mod_lt _ (by decide)) h2 hd
  rwa [K_split, (simW_eval h4).1, (simW_eval h4).2.1] at this
theorem rWord_s (p : Nat) (γ : Rg) (ρ : Rs) (σ : Ds) (K : Nat) (wd : Wd) (w : World) (hsim : Sim σ ρ) (hk : σ.ws[K]? = some wd) (hd : (RDev p γ ρ).holds w) : Upd Tryz.prog 55 [.pointer (some ⟨p, 0, none⟩), .int .i64 (8 * (K : Int))] (RDev p γ ρ) (.tuple #[b64 (nowW wd), .int .i64 0]) (RDev p γ ρ) w := by
  obtain ⟨l, v0, u, h1, h2, h3, h4⟩ := hsim.at (List.getElem?_eq_some_iff.1 hk).1
  obtain rfl := Option.some.inj (hk.symm.trans h3)
  have := rWord_k p γ ρ (K / 8) (K % 8) l v0 w h1 (Nat.mod_lt _ (by decide)) h2 hd
  rwa [K_split, (simW_eval h4).2.2] at this
/-- How many words below K are in doubt. -/
def inD (ws : List Wd) (k : Nat) : Bool := match ws[k]? with | some w => inDoubt w | none => false
def dkc (ws : List Wd) (K : Nat) : Nat := ((List.range K).filter (inD ws)).length
theorem inD_some {ws : List Wd} {k : Nat} {w : Wd} (h : ws[k]? = some w) : inD ws k = inDoubt w := by unfold inD; rw [h]
theorem inDoubt_T {w : Wd} (h : w.news ≠ []) : inDoubt w = true := by cases hn : w.news with | nil => exact absurd hn h | cons a l => simp [inDoubt, hn]
theorem inDoubt_F {w : Wd} (h : w.news = []) : inDoubt w = false := by simp [inDoubt, h]
theorem dkc_yes {ws : List Wd} {K : Nat} {w : Wd} (h : ws[K]? = some w) (hn : w.news ≠ []) : dkc ws (K + 1) = dkc ws K + 1 := by
  unfold dkc; rw [List.range_succ, List.filter_append, List.length_append, List.filter_cons_of_pos (by rw [inD_some h]; exact inDoubt_T hn)]; rfl
theorem dkc_no {ws : List Wd} {K : Nat} {w : Wd} (h : ws[K]? = some w) (hn : w.news = []) : dkc ws (K + 1) = dkc ws K := by
  unfold dkc; rw [List.range_succ, List.filter_append, List.length_append, List.filter_cons_of_neg (by rw [inD_some h, inDoubt_F hn]; simp)]; rfl
theorem dkc_at {ws : List Wd} {K : Nat} {w : Wd} (h : ws[K]? = some w) (hn : w.news ≠ []) : (dk ws)[dkc ws K]? = some K := by
  have hk := (List.getElem?_eq_some_iff.1 h).1
  have e : dk ws = (List.range ws.length).filter (inD ws) := rfl
  rw [e, show ws.length = (K + 1) + (ws.length - (K + 1)) by omega, List.range_add, List.filter_append, List.range_succ, List.filter_append, List.filter_cons_of_pos (by rw [inD_some h]; exact inDoubt_T hn), List.append_assoc]
  unfold dkc
  rw [List.getElem?_append_right (Nat.le_refl _), Nat.sub_self]; rfl
theorem dkc_all (ws : List Wd) : dkc ws ws.length = (dk ws).length := rfl
theorem dkc_le (ws : List Wd) (K : Nat) : dkc ws K ≤ K := by unfold dkc; exact Nat.le_trans (List.length_filter_le _ _) (by rw [List.length_range]; exact Nat.le_refl _)
def restI (c n : Int) : Int := if c.tmod n < 0 then c.tmod n + n else c.tmod n
theorem restI_bd {n : Nat} (c : Int) (h : n ≤ 1099511627776) : 0 ≤ restI c ((n : Int) + 1) ∧ restI c ((n : Int) + 1) ≤ n := by
  have h1 := Int.lt_tmod_of_pos c (b := (n : Int) + 1) (by omega)
  have h2 := Int.tmod_lt_of_pos c (b := (n : Int) + 1) (by omega)
  unfold restI; split <;> omega
theorem At.idxI' {P : Program} {Γ : Ctx} {E : Env} {H : List Res} {ops : Array Oper} {Q : Exit → Act → World → Prop} {rest : List Oper} {d : Nat} {ty : TypeId} {pos : String} {after : Array Edge} {x y : Operand} {v : Value} {t el : Nat} {l : List Int} {k : IntKind} {j : Int} {g : Option (Nat × Bool)} (h : RdI Γ.w0 v l) (ho : Off v (l.map (Value.int .i64)) Γ.S) (hu : P.underlying t = some (.slice el)) (hs : ∀ w, (sizeOf el).run P w = .ok 1 w) (hx : ev E x = some v) (hy : ev E y = some (.int k j)) (h0 : 0 ≤ j) (h1 : j < l.length)
    (hg : g = none) (hn : Nat.blt d Γ.n = true)
    (c : ∀ b o q, l[j.toNat]? = some q → Γ.w0.cell? ⟨b, o, none⟩ = some (.int .i64 q) → ¬ Γ.S b → At Γ ((d, .pointer (some ⟨b, o, none⟩)) :: E) H (wpList P ops Q rest)) :
    At Γ E H (wpList P ops Q ({ dst := some d, op := .indexAddr t x y, type := ty, pos, after, guard := g } :: rest)) := by
  obtain ⟨b, o, cap, rfl, hc⟩ := h.at (j := j.toNat) (by omega)
  have hq : l[j.toNat]? = some (l[j.toNat]'(by omega)) := List.getElem?_eq_getElem _
  exact At.val (Val.indexSl _ rfl hu hs hx hy h0 h1) hg rfl hn (c b _ _ hq (by have := hc 0 _ (by rw [Nat.mul_one, Nat.add_zero, List.getElem?_map, hq]; rfl); rwa [Nat.add_zero] at this) (ho (fun e => by rw [List.map_eq_nil_iff] at e; subst e; simp at h1; omega) b _ _ _ _ rfl))
theorem rput_r (v : Value) (K : Nat) (l : List UInt8) (x : BitVec 64) (w : World) (ho8 : 8 * K + 8 ≤ l.length) (hl : l.length ≤ 1000000) (hr : (brow 5 v l).holds w) :
    Upd Tryz.prog 63 [v, .int .i64 (8 * (K : Int)), b64 x] (brow 5 v l) (.tuple #[]) (brow 5 v (put8 l (8 * K) x)) w := by
 refine enter (feet [brow 5 v l]) [brow 5 v l] Tryz.func63 rfl Tryz.ntmps63 rfl (Rep.one hr) ?_
 simp only [envOf]
 refine tR ?_
 refine tA rfl rfl ?_
 refine tE ?_
 refine At.block ?_
 skip
 refine At.loop (σ := Nat) (fun k => k ≤ 8) (fun k => [(0, v), (1, .int .i64 (8 * (K : Int))), (2, b64 x), (6, .int .i64 (k : Int))]) (fun k => [brow 5 v (putK l (8 * K) x k)]) (fun k => 8 - k) 0 (Nat.zero_le _) (Sub.cons rfl (Sub.cons rfl (Sub.cons rfl (Sub.cons rfl Sub.nil)))) (by rw [putK_zero]) ?_
 intro k hs
 refine At.seq ?_
 refine tR ?_
 refine tM rfl rfl ?_
 refine At.val (Val.bin rfl rfl rfl) rfl rfl rfl ?_
 refine tE ?_
 refine At.cond rfl (fun h1 => ?_) (fun h1 => ?_)
 ·skip
  try simp only [hasB, isSizeB, Bool.not_eq_true', Bool.not_eq_false', bne_iff_ne, ne_eq, bne_eq_false_iff_eq, beq_iff_eq, beq_eq_false_iff_ne, decide_eq_true_eq, decide_eq_false_iff_not, gt_iff_lt, ge_iff_le] at h1
  have hk : k < 8 := by omega
  refine At.skipC ?_
  refine At.thenN ?_
  refine At.seq ?_
  refine At.block ?_
  refine At.region ?_
  refine tM rfl rfl ?_
  refine tM rfl rfl ?_
  refine tM rfl rfl ?_
  first | refine At.val (Val.addI rfl rfl (by omega) (by omega)) rfl rfl rfl ?_ | refine At.val (Val.bin rfl rfl rfl) rfl rfl rfl ?_
  refine tM rfl rfl ?_
  refine tM rfl rfl ?_
  first | refine At.val (Val.mulI rfl rfl (by omega) (by omega)) rfl rfl rfl ?_ | refine At.val (Val.bin rfl rfl rfl) rfl rfl rfl ?_
  first | refine At.val (Val.toU Tryz.underlying3 Tryz.underlying123 rfl (by omega) (by omega)) rfl rfl rfl ?_ | refine At.val (Val.conv Tryz.underlying3 Tryz.underlying123 rfl) rfl rfl rfl ?_
  refine At.val (Val.shr rfl rfl (by omega)) rfl rfl rfl ?_
  rw [shr_byte x hk]
  refine At.val (Val.toB Tryz.underlying32 Tryz.underlying5 rfl (Int.natCast_nonneg _)) rfl rfl rfl ?_
  rw [Int.toNat_natCast]
  have hpl := putK_length (l := l) (o := 8 * K) (k := k) x (by omega) (by omega)
  refine At.val (Val.indexRow (i := 0) (8 * K + k) (by omega) Tryz.underlying59 Tryz.sizeOf5 rfl rfl rfl (by omega) (by rw [hpl]; omega)) rfl rfl rfl ?_
  refine At.storeRowB (i := 0) Tryz.sizeOf5 rfl rfl rfl (by omega) ?_
  simp only [sc0, scS]
  rw [putK_step x (by omega) hk]
  refine At.nil ?_
  refine At.blkN ?_
  refine At.thenN ?_
  refine At.region ?_
  refine tM rfl rfl ?_
  first | refine At.val (Val.addI rfl rfl (by omega) (by omega)) rfl rfl rfl ?_ | refine At.val (Val.bin rfl rfl rfl) rfl rfl rfl ?_
  refine tA rfl rfl ?_
  refine tE ?_
  exact At.again (k + 1) (show k + 1 ≤ 8 by omega) (by omega) (Sub.cons rfl (Sub.cons rfl (Sub.cons rfl (Sub.cons (congrArg (fun z => some (Value.int IntKind.i64 z)) (by omega)) Sub.nil)))) (List.Perm.refl _)
 ·skip
  try simp only [hasB, isSizeB, Bool.not_eq_true', Bool.not_eq_false', bne_iff_ne, ne_eq, bne_eq_false_iff_eq, beq_iff_eq, beq_eq_false_iff_ne, decide_eq_true_eq, decide_eq_false_iff_not, gt_iff_lt, ge_iff_le] at h1
  obtain rfl : k = 8 := by omega
  refine At.exitC ?_
  refine At.thenX ?_
  refine At.thenX ?_
  refine At.blkX ?_
  refine At.ret0 (.inr rfl) rfl rfl  (fun w hw => ?_)
  exact ⟨rfl, hw⟩
theorem rest_p (c n : Int) (w : World) (h0 : 0 < n) (h1 : n ≤ 1099511627776) :
    PureC Tryz.prog 65 [.int .i64 c, .int .i64 n] (.int .i64 (restI c n)) w := by
 refine enter0 Tryz.func65 rfl Tryz.ntmps65 rfl ?_
 have hb1 := Int.lt_tmod_of_pos c h0
 have hb2 := Int.tmod_lt_of_pos c h0
 simp only [envOf]
 refine tR ?_
 refine tA rfl rfl ?_
 refine tE ?_
 refine tR ?_
 refine tM rfl rfl ?_
 refine tM rfl rfl ?_
 refine At.val (Val.rem rfl rfl (by omega)) rfl rfl rfl ?_
 refine tA rfl rfl ?_
 refine tE ?_
 refine At.seq ?_
 refine tR ?_
 refine tM rfl rfl ?_
 refine At.val (Val.bin rfl rfl rfl) rfl rfl rfl ?_
 refine tE ?_
 refine At.cond rfl (fun h1 => ?_) (fun h1 => ?_)
 ·skip
  try simp only [hasB, isSizeB, Bool.not_eq_true', Bool.not_eq_false', bne_iff_ne, ne_eq, bne_eq_false_iff_eq, beq_iff_eq, beq_eq_false_iff_ne, decide_eq_true_eq, decide_eq_false_iff_not, gt_iff_lt, ge_iff_le] at h1
  refine At.region ?_
  refine tM rfl rfl ?_
  refine tM rfl rfl ?_
  first | refine At.val (Val.addI rfl rfl (by omega) (by omega)) rfl rfl rfl ?_ | refine At.val (Val.bin rfl rfl rfl) rfl rfl rfl ?_
  refine tA rfl rfl ?_
  refine tE ?_
  refine tR ?_
  refine tM rfl rfl ?_
  refine tA rfl rfl ?_
  refine tE ?_
  refine At.retC ?_
  refine At.ret1 (.inl rfl) rfl rfl rfl (fun w hw => ?_)
  exact ⟨congrArg (fun z => Ending.returned (Value.int .i64 z)) (by unfold restI; first | rw [if_pos (by assumption)] | rw [if_neg (by assumption)]), hw.mod⟩
 ·skip
  try simp only [hasB, isSizeB, Bool.not_eq_true', Bool.not_eq_false', bne_iff_ne, ne_eq, bne_eq_false_iff_eq, beq_iff_eq, beq_eq_false_iff_ne, decide_eq_true_eq, decide_eq_false_iff_not, gt_iff_lt, ge_iff_le] at h1
  refine At.skipC ?_
  refine At.thenN ?_
  refine tR ?_
  refine tM rfl rfl ?_
  refine tA rfl rfl ?_
  refine tE ?_
  refine At.retC ?_
  refine At.ret1 (.inl rfl) rfl rfl rfl (fun w hw => ?_)
  exact ⟨congrArg (fun z => Ending.returned (Value.int .i64 z)) (by unfold restI; first | rw [if_pos (by assumption)] | rw [if_neg (by assumption)]), hw.mod⟩
theorem rview_s (p : Nat) (γ : Rg) (ρ : Rs) (σ : Ds) (w : World) (hsim : Sim σ ρ) (hwl : σ.ws.length ≤ 65536) (hd : (RDev p γ ρ).holds w) :
    RowK Tryz.prog 20 [.pointer (some ⟨p, 0, none⟩)] (RDev p γ ρ) 5 1 (wbytes (viewWs σ.ws)).length ((wbytes (viewWs σ.ws)).map bv) w := by
 refine enterRc hd Tryz.func20 rfl Tryz.ntmps20 rfl ?_
 obtain ⟨hQ, hg⟩ := RDev.facts hd
 have hln := hg.len
 have hps := hg.pos
 have hnw := hg.now
 have hsl := hsim.len
 have hxs : (viewWs σ.ws).length = σ.ws.length := List.length_map ..
 simp only [envOf]
 refine tR ?_
 refine tA rfl rfl ?_
 refine tE ?_
 refine tR ?_
 refine tM rfl rfl ?_
 refine At.callK 0 rfl (fun w hw hr => rsize_k _ _ _ w hr) Tryz.call31 rfl rfl ?_
 rw [show 64 * (ρ.ls.length : Int) = ((8 * σ.ws.length : Nat) : Int) from by have := hsim.len; omega]
 refine At.makeRowB (n := 8 * σ.ws.length) Tryz.underlying59 info_5 rfl rfl rfl rfl rfl (by omega) rfl (fun v1 => ?_)
 rw [← wbytes_zero]
 refine tA rfl rfl ?_
 refine tE ?_
 refine At.seq ?_
 refine tR ?_
 refine tA rfl rfl ?_
 refine tE ?_
 refine At.block ?_
 skip
 refine At.loop (σ := Nat) (fun K => K ≤ σ.ws.length) (fun K => [(0, .pointer (some ⟨p, 0, none⟩)), (3, v1), (4, .int .i64 (8 * (K : Int)))]) (fun K => [brow 5 v1 (wbytes ((viewWs σ.ws).take K ++ List.replicate ((viewWs σ.ws).length - K) 0)), RDev p γ ρ]) (fun K => σ.ws.length - K) 0 (Nat.zero_le _) (Sub.cons rfl (Sub.cons rfl (Sub.cons rfl Sub.nil))) (by rw [List.take_zero, List.nil_append, Nat.sub_zero, hxs]) ?_
 intro K hs
 have hxl : ((viewWs σ.ws).take K ++ List.replicate ((viewWs σ.ws).length - K) 0).length = σ.ws.length := by rw [List.length_append, List.length_take, List.length_replicate, hxs]; omega
 refine At.seq ?_
 refine tR ?_
 refine tM rfl rfl ?_
 refine tM rfl rfl ?_
 refine At.callK 1 rfl (fun w hw hr => rsize_k _ _ _ w hr) Tryz.call31 rfl rfl ?_
 refine At.val (Val.bin rfl rfl rfl) rfl rfl rfl ?_
 refine tE ?_
 refine At.cond rfl (fun h2 => ?_) (fun h2 => ?_)
 ·skip
  try simp only [hasB, isSizeB, Bool.not_eq_true', Bool.not_eq_false', bne_iff_ne, ne_eq, bne_eq_false_iff_eq, beq_iff_eq, beq_eq_false_iff_ne, decide_eq_true_eq, decide_eq_false_iff_not, gt_iff_lt, ge_iff_le] at h2
  have hK : K < σ.ws.length := by omega
  obtain ⟨wd, hk⟩ : ∃ wd, σ.ws[K]? = some wd := ⟨_, List.getElem?_eq_getElem hK⟩
  have hxk : (viewWs σ.ws)[K]? = some (nowW wd) := by unfold viewWs; rw [List.getElem?_map, hk]; rfl
  refine At.skipC ?_
  refine At.thenN ?_
  refine At.seq ?_
  refine At.block ?_
  refine tR ?_
  refine tM rfl rfl ?_
  refine tM rfl rfl ?_
  refine At.callK 1 rfl (fun w hw hr => rnow_s _ _ _ σ K wd w hsim hk hr) Tryz.call62 rfl rfl ?_
  refine tA rfl rfl ?_
  refine tE ?_
  refine At.region ?_
  refine tM rfl rfl ?_
  refine tM rfl rfl ?_
  refine tM rfl rfl ?_
  refine At.call1 0 rfl (fun w hw hr => rput_r _ K _ (nowW wd) w (by rw [wbytes_length, hxl]; omega) (by rw [wbytes_length, hxl]; omega) hr) Tryz.call63 rfl rfl ?_
  simp only [sc0, scS]
  refine At.nil ?_
  refine At.blkN ?_
  refine At.thenN ?_
  refine At.region ?_
  refine tM rfl rfl ?_
  first | refine At.val (Val.addI rfl rfl (by omega) (by omega)) rfl rfl rfl ?_ | refine At.val (Val.bin rfl rfl rfl) rfl rfl rfl ?_
  refine tA rfl rfl ?_
  refine tE ?_
  exact At.again (K + 1) (show K + 1 ≤ _ by omega) (by omega) (Sub.cons rfl (Sub.cons rfl (Sub.cons (congrArg (fun z => some (Value.int IntKind.i64 z)) (by omega)) Sub.nil))) (by rw [put8_set _ (by omega), take_set_zero hxk])
 ·skip
  try simp only [hasB, isSizeB, Bool.not_eq_true', Bool.not_eq_false', bne_iff_ne, ne_eq, bne_eq_false_iff_eq, beq_iff_eq, beq_eq_false_iff_ne, decide_eq_true_eq, decide_eq_false_iff_not, gt_iff_lt, ge_iff_le] at h2
  obtain rfl : K = σ.ws.length := by omega
  refine At.exitC ?_
  refine At.thenX ?_
  refine At.thenX ?_
  refine At.blkX ?_
  refine At.thenN ?_
  refine tR ?_
  refine tM rfl rfl ?_
  refine tA rfl rfl ?_
  refine tE ?_
  refine At.retC ?_
  refine At.ret1 (.inl rfl) rfl rfl rfl (fun w hw => ?_)
  rw [← hxs, List.take_length, Nat.sub_self, List.replicate_zero, List.append_nil] at hw
  exact ⟨_, rfl, hw⟩
theorem rcrash_s (p : Nat) (γ : Rg) (ρ : Rs) (σ : Ds) (vc : Value) (cs : List Int) (w : World) (hsim : Sim σ ρ) (hwl : σ.ws.length ≤ 65536) (hst : ∀ u ∈ σ.ws, u.news.length ≤ 1099511627775) (hv : RdI w vc cs) (ho : Off vc (cs.map (Value.int .i64)) (feet [RDev p γ ρ])) (hd : (RDev p γ ρ).holds w) :
    RowK Tryz.prog 21 [.pointer (some ⟨p, 0, none⟩), vc] (RDev p γ ρ) 5 1 (wbytes (picked σ.ws (pkC σ.ws cs))).length ((wbytes (picked σ.ws (pkC σ.ws cs))).map bv) w := by
 refine enterRc hd Tryz.func21 rfl Tryz.ntmps21 rfl ?_
 obtain ⟨hQ, hg⟩ := RDev.facts hd
 have hln := hg.len
 have hps := hg.pos
 have hnw := hg.now
 have hsl := hsim.len
 have hxs : (picked σ.ws (pkC σ.ws cs)).length = σ.ws.length := picked_length ..
 simp only [envOf]
 refine tR ?_
 refine tA rfl rfl ?_
 refine tE ?_
 refine tR ?_
 refine tM rfl rfl ?_
 refine At.callK 0 rfl (fun w hw hr => rsize_k _ _ _ w hr) Tryz.call31 rfl rfl ?_
 rw [show 64 * (ρ.ls.length : Int) = ((8 * σ.ws.length : Nat) : Int) from by have := hsim.len; omega]
 refine At.makeRowB (n := 8 * σ.ws.length) Tryz.underlying59 info_5 rfl rfl rfl rfl rfl (by omega) rfl (fun v1 => ?_)
 rw [← wbytes_zero]
 refine tA rfl rfl ?_
 refine tE ?_
 refine tR ?_
 refine tA rfl rfl ?_
 refine tE ?_
 refine At.seq ?_
 refine tR ?_
 refine tA rfl rfl ?_
 refine tE ?_
 refine At.block ?_
 skip
 refine At.loop (σ := Nat) (fun K => K ≤ σ.ws.length) (fun K => [(0, .pointer (some ⟨p, 0, none⟩)), (1, vc), (5, v1), (6, .int .i64 ((dkc σ.ws K : Nat) : Int)), (7, .int .i64 (8 * (K : Int)))]) (fun K => [brow 5 v1 (wbytes ((picked σ.ws (pkC σ.ws cs)).take K ++ List.replicate ((picked σ.ws (pkC σ.ws cs)).length - K) 0)), RDev p γ ρ]) (fun K => σ.ws.length - K) 0 (Nat.zero_le _) (Sub.cons rfl (Sub.cons rfl (Sub.cons rfl (Sub.cons rfl (Sub.cons rfl Sub.nil))))) (by rw [List.take_zero, List.nil_append, Nat.sub_zero, hxs]) ?_
 intro K hs
 have hxl : ((picked σ.ws (pkC σ.ws cs)).take K ++ List.replicate ((picked σ.ws (pkC σ.ws cs)).length - K) 0).length = σ.ws.length := by rw [List.length_append, List.length_take, List.length_replicate, hxs]; omega
 have hdc := dkc_le σ.ws K
 refine At.seq ?_
 refine tR ?_
 refine tM rfl rfl ?_
 refine tM rfl rfl ?_
 refine At.callK 1 rfl (fun w hw hr => rsize_k _ _ _ w hr) Tryz.call31 rfl rfl ?_
 refine At.val (Val.bin rfl rfl rfl) rfl rfl rfl ?_
 refine tE ?_
 refine At.cond rfl (fun h2 => ?_) (fun h2 => ?_)
 ·skip
  try simp only [hasB, isSizeB, Bool.not_eq_true', Bool.not_eq_false', bne_iff_ne, ne_eq, bne_eq_false_iff_eq, beq_iff_eq, beq_eq_false_iff_ne, decide_eq_true_eq, decide_eq_false_iff_not, gt_iff_lt, ge_iff_le] at h2
  have hK : K < σ.ws.length := by omega
  obtain ⟨wd, hk⟩ : ∃ wd, σ.ws[K]? = some wd := ⟨_, List.getElem?_eq_getElem hK⟩
  have hnl := hst wd (List.mem_of_getElem? hk)
  refine At.skipC ?_
  refine At.thenN ?_
  refine At.seq ?_
  refine At.block ?_
  refine tR ?_
  refine tM rfl rfl ?_
  refine tM rfl rfl ?_
  refine At.callRKT 1 rfl (fun w hw hr => rword_s _ _ _ σ K wd w hsim hk hr) Tryz.call64 rfl rfl (fun v3 => ?_)
  refine tM rfl rfl ?_
  refine At.val (Val.extract rfl rfl) rfl rfl rfl ?_
  refine At.val (Val.extract rfl rfl) rfl rfl rfl ?_
  refine tA rfl rfl ?_
  refine tA rfl rfl ?_
  refine tE ?_
  refine At.join (σ := BitVec 64) (fun z => (picked σ.ws (pkC σ.ws cs))[K]? = some z) (fun z => [(0, .pointer (some ⟨p, 0, none⟩)), (1, vc), (5, v1), (7, .int .i64 (8 * (K : Int))), (6, .int .i64 ((dkc σ.ws (K + 1) : Nat) : Int)), (8, b64 z)]) (fun z => [rowR v1 5 1 (((wbytes ((picked σ.ws (pkC σ.ws cs)).take K ++ List.replicate ((picked σ.ws (pkC σ.ws cs)).length - K) 0))).length) (((wbytes ((picked σ.ws (pkC σ.ws cs)).take K ++ List.replicate ((picked σ.ws (pkC σ.ws cs)).length - K) 0))).map bv), RDev p γ (ρ)]) ?_ ?_
  ·skip
   refine tR ?_
   refine tM rfl rfl ?_
   refine At.val (Val.lenRow (i := 0) Tryz.underlying44 rfl rfl) rfl rfl rfl ?_
   refine At.val (Val.bin rfl rfl rfl) rfl rfl rfl ?_
   refine tE ?_
   refine At.cond rfl (fun h4 => ?_) (fun h4 => ?_)
   ·skip
    try simp only [hasB, isSizeB, Bool.not_eq_true', Bool.not_eq_false', bne_iff_ne, ne_eq, bne_eq_false_iff_eq, beq_iff_eq, beq_eq_false_iff_ne, decide_eq_true_eq, decide_eq_false_iff_not, gt_iff_lt, ge_iff_le] at h4
    have hn : wd.news ≠ [] := List.length_pos_iff.1 (by omega)
    have hdk := dkc_at hk hn
    refine tR ?_
    refine tA rfl rfl ?_
    refine tE ?_
    refine At.join (σ := Int) (fun r => r = (match cs[dkc σ.ws K]? with | some c => restI c ((wd.news.length : Int) + 1) | none => 0) ∧ 0 ≤ r ∧ r ≤ wd.news.length) (fun r => [(0, .pointer (some ⟨p, 0, none⟩)), (1, vc), (5, v1), (7, .int .i64 (8 * (K : Int))), (6, .int .i64 ((dkc σ.ws K : Nat) : Int)), (8, b64 wd.old), (9, v3), (10, .int .i64 r)]) (fun r => [rowR v3 32 1 ((wd.news).length) ((wd.news).map b64), rowR v1 5 1 (((wbytes ((picked σ.ws (pkC σ.ws cs)).take K ++ List.replicate ((picked σ.ws (pkC σ.ws cs)).length - K) 0))).length) (((wbytes ((picked σ.ws (pkC σ.ws cs)).take K ++ List.replicate ((picked σ.ws (pkC σ.ws cs)).length - K) 0))).map bv), RDev p γ (ρ)]) ?_ ?_
    ·skip
     refine tR ?_
     refine tM rfl rfl ?_
     refine tM rfl rfl ?_
     refine At.val (Val.lenRd hv Tryz.underlying36 rfl) rfl rfl rfl ?_
     refine At.val (Val.bin rfl rfl rfl) rfl rfl rfl ?_
     refine tE ?_
     refine At.cond rfl (fun h5 => ?_) (fun h5 => ?_)
     ·skip
      try simp only [hasB, isSizeB, Bool.not_eq_true', Bool.not_eq_false', bne_iff_ne, ne_eq, bne_eq_false_iff_eq, beq_iff_eq, beq_eq_false_iff_ne, decide_eq_true_eq, decide_eq_false_iff_not, gt_iff_lt, ge_iff_le] at h5
      refine At.region ?_
      refine tM rfl rfl ?_
      refine tM rfl rfl ?_
      refine At.idxI' hv ho Tryz.underlying36 Tryz.sizeOf3 rfl rfl (by omega) (by omega) rfl rfl (fun bx ox cx hcx hcc hox => ?_)
      rw [Int.toNat_natCast] at hcx
      refine At.val (Val.loadOld Tryz.isAgg3 rfl hcc hox) rfl rfl rfl ?_
      refine tM rfl rfl ?_
      refine At.val (Val.lenRow (i := 0) Tryz.underlying44 rfl rfl) rfl rfl rfl ?_
      first | refine At.val (Val.addI rfl rfl (by omega) (by omega)) rfl rfl rfl ?_ | refine At.val (Val.bin rfl rfl rfl) rfl rfl rfl ?_
      refine At.callP (fun w hw => rest_p cx ((wd.news.length : Int) + 1) w (by omega) (by omega)) Tryz.call65 rfl rfl ?_
      refine tA rfl rfl ?_
      refine tE ?_
      exact At.meets _ ⟨by rw [hcx], restI_bd _ (by omega)⟩ (Sub.cons rfl (Sub.cons rfl (Sub.cons rfl (Sub.cons rfl (Sub.cons rfl (Sub.cons rfl (Sub.cons rfl (Sub.cons rfl Sub.nil)))))))) (List.Perm.refl _)
     ·skip
      try simp only [hasB, isSizeB, Bool.not_eq_true', Bool.not_eq_false', bne_iff_ne, ne_eq, bne_eq_false_iff_eq, beq_iff_eq, beq_eq_false_iff_ne, decide_eq_true_eq, decide_eq_false_iff_not, gt_iff_lt, ge_iff_le] at h5
      have hcx : cs[dkc σ.ws K]? = none := List.getElem?_eq_none (by omega)
      refine At.skipC ?_
      refine At.thenN ?_
      exact At.meets 0 ⟨by rw [hcx], by omega, by omega⟩ (Sub.cons rfl (Sub.cons rfl (Sub.cons rfl (Sub.cons rfl (Sub.cons rfl (Sub.cons rfl (Sub.cons rfl (Sub.cons rfl Sub.nil)))))))) (List.Perm.refl _)
    ·skip
     intro r hs
     refine At.join (σ := Unit) (fun u => True) (fun u => [(0, .pointer (some ⟨p, 0, none⟩)), (1, vc), (5, v1), (7, .int .i64 (8 * (K : Int))), (6, .int .i64 ((dkc σ.ws K : Nat) : Int)), (8, b64 (pickC cs (dkc σ.ws K) wd))]) (fun u => [rowR v3 32 1 ((wd.news).length) ((wd.news).map b64), rowR v1 5 1 (((wbytes ((picked σ.ws (pkC σ.ws cs)).take K ++ List.replicate ((picked σ.ws (pkC σ.ws cs)).length - K) 0))).length) (((wbytes ((picked σ.ws (pkC σ.ws cs)).take K ++ List.replicate ((picked σ.ws (pkC σ.ws cs)).length - K) 0))).map bv), RDev p γ (ρ)]) ?_ ?_
     ·skip
      refine tR ?_
      refine tM rfl rfl ?_
      refine At.val (Val.bin rfl rfl rfl) rfl rfl rfl ?_
      refine tE ?_
      refine At.cond rfl (fun h6 => ?_) (fun h6 => ?_)
      ·skip
       try simp only [hasB, isSizeB, Bool.not_eq_true', Bool.not_eq_false', bne_iff_ne, ne_eq, bne_eq_false_iff_eq, beq_iff_eq, beq_eq_false_iff_ne, decide_eq_true_eq, decide_eq_false_iff_not, gt_iff_lt, ge_iff_le] at h6
       refine At.region ?_
       refine tM rfl rfl ?_
       refine tM rfl rfl ?_
       first | refine At.val (Val.subI rfl rfl (by omega) (by omega)) rfl rfl rfl ?_ | refine At.val (Val.bin rfl rfl rfl) rfl rfl rfl ?_
       obtain ⟨zv, hzv⟩ : ∃ zv, wd.news[(r - 1).toNat]? = some zv := ⟨_, List.getElem?_eq_getElem (by omega)⟩
       refine At.val (Val.indexRow (i := 0) (r - 1).toNat (by omega) Tryz.underlying44 Tryz.sizeOf32 rfl rfl rfl (by omega) (by omega)) rfl rfl rfl ?_
       refine At.val (Val.loadRow (i := 0) Tryz.isAgg32 rfl rfl (by rw [List.getElem?_map, hzv]; rfl)) rfl rfl rfl ?_
       refine tA rfl rfl ?_
       refine tE ?_
       exact At.meets () trivial (Sub.cons rfl (Sub.cons rfl (Sub.cons rfl (Sub.cons rfl (Sub.cons rfl (Sub.cons (congrArg (fun z : BitVec 64 => some (b64 z)) (pick_new (c := r) (by omega) hs.1 hzv).symm) Sub.nil)))))) (List.Perm.refl _)
      ·skip
       try simp only [hasB, isSizeB, Bool.not_eq_true', Bool.not_eq_false', bne_iff_ne, ne_eq, bne_eq_false_iff_eq, beq_iff_eq, beq_eq_false_iff_ne, decide_eq_true_eq, decide_eq_false_iff_not, gt_iff_lt, ge_iff_le] at h6
       refine At.skipC ?_
       refine At.thenN ?_
       exact At.meets () trivial (Sub.cons rfl (Sub.cons rfl (Sub.cons rfl (Sub.cons rfl (Sub.cons rfl (Sub.cons (congrArg (fun z : BitVec 64 => some (b64 z)) (pick_old (c := r) (by omega) hs.1).symm) Sub.nil)))))) (List.Perm.refl _)
     ·skip
      intro u hs
      refine At.region ?_
      refine tM rfl rfl ?_
      first | refine At.val (Val.addI rfl rfl (by omega) (by omega)) rfl rfl rfl ?_ | refine At.val (Val.bin rfl rfl rfl) rfl rfl rfl ?_
      refine tA rfl rfl ?_
      refine At.nil ?_
      refine At.drop 0 ?_
      simp only [ec0, ecS]
      refine At.thenN ?_
      exact At.meets (pickC cs (dkc σ.ws K) wd) (by rw [picked_new hdk, pkC_at hk]) (Sub.cons rfl (Sub.cons rfl (Sub.cons rfl (Sub.cons rfl (Sub.cons (congrArg (fun z => some (Value.int IntKind.i64 z)) (by rw [dkc_yes hk hn]; omega)) (Sub.cons rfl Sub.nil)))))) (List.Perm.refl _)
   ·skip
    try simp only [hasB, isSizeB, Bool.not_eq_true', Bool.not_eq_false', bne_iff_ne, ne_eq, bne_eq_false_iff_eq, beq_iff_eq, beq_eq_false_iff_ne, decide_eq_true_eq, decide_eq_false_iff_not, gt_iff_lt, ge_iff_le] at h4
    have hn : wd.news = [] := List.eq_nil_of_length_eq_zero (by omega)
    refine At.drop 0 ?_
    simp only [ec0, ecS]
    refine At.skipC ?_
    refine At.thenN ?_
    exact At.meets wd.old (picked_old hk hn) (Sub.cons rfl (Sub.cons rfl (Sub.cons rfl (Sub.cons rfl (Sub.cons (congrArg (fun z => some (Value.int IntKind.i64 z)) (by rw [dkc_no hk hn])) (Sub.cons rfl Sub.nil)))))) (List.Perm.refl _)
  ·skip
   intro z hs
   have hxk := hs
   refine At.region ?_
   refine tM rfl rfl ?_
   refine tM rfl rfl ?_
   refine tM rfl rfl ?_
   refine At.call1 0 rfl (fun w hw hr => rput_r _ K _ (z) w (by rw [wbytes_length, hxl]; omega) (by rw [wbytes_length, hxl]; omega) hr) Tryz.call63 rfl rfl ?_
   simp only [sc0, scS]
   refine At.nil ?_
   refine At.blkN ?_
   refine At.thenN ?_
   refine At.region ?_
   refine tM rfl rfl ?_
   first | refine At.val (Val.addI rfl rfl (by omega) (by omega)) rfl rfl rfl ?_ | refine At.val (Val.bin rfl rfl rfl) rfl rfl rfl ?_
   refine tA rfl rfl ?_
   refine tE ?_
   exact At.again (K + 1) (show K + 1 ≤ _ by omega) (by omega) (Sub.cons rfl (Sub.cons rfl (Sub.cons rfl (Sub.cons rfl (Sub.cons (congrArg (fun z => some (Value.int IntKind.i64 z)) (by omega)) Sub.nil))))) (by rw [put8_set _ (by omega), take_set_zero hxk])
 ·skip
  try simp only [hasB, isSizeB, Bool.not_eq_true', Bool.not_eq_false', bne_iff_ne, ne_eq, bne_eq_false_iff_eq, beq_iff_eq, beq_eq_false_iff_ne, decide_eq_true_eq, decide_eq_false_iff_not, gt_iff_lt, ge_iff_le] at h2
  obtain rfl : K = σ.ws.length := by omega
  refine At.exitC ?_
  refine At.thenX ?_
  refine At.thenX ?_
  refine At.blkX ?_
  refine At.thenN ?_
  refine tR ?_
  refine tM rfl rfl ?_
  refine tA rfl rfl ?_
  refine tE ?_
  refine At.retC ?_
  refine At.ret1 (.inl rfl) rfl rfl rfl (fun w hw => ?_)
  rw [← hxs, List.take_length, Nat.sub_self, List.replicate_zero, List.append_nil] at hw
  exact ⟨_, rfl, hw⟩
end Go.Proofs.YthhkbbodhghmcaaGreatDoor
set_option linter.unusedVariables false
set_option linter.unusedSimpArgs false
namespace Go.Proofs.YthhkbbodhghmcaaGreatDoor
open Go Go.Wk
theorem rstore_s (p : Nat) (γ : Rg) (ρ : Rs) (σ : Ds) (K : Nat) (x : BitVec 64) (w : World) (hsim : Sim σ ρ) (hK : K < σ.ws.length) (hs : σ.steps + 1 ≤ 1099511627776) (hno : deadB σ = false) (hd : (RDev p γ ρ).holds w) :
    RDevP Tryz.prog 26 [.pointer (some ⟨p, 0, none⟩), .int .i64 (8 * (K : Int)), b64 x] p γ ρ (.int .i64 0) (Sim (storeD σ K x)) w := by
  obtain ⟨l, v0, u, h1, h2, h3, h4⟩ := hsim.at hK
  have := rstore_d p γ ρ (K / 8) (K % 8) l x w h1 (Nat.mod_lt _ (by decide)) (by rw [← hsim.now]; exact hs) (hsim.alive hno) hd
  rw [K_split] at this
  refine this.toP ?_
  have h5 := hsim.store (k := K / 8) (j := K % 8) (x := x) hno h1 (Nat.mod_lt _ (by decide)) (by rwa [show 8 * (K / 8) + K % 8 = K by omega])
  rw [show 8 * (K / 8) + K % 8 = K by omega] at h5
  rwa [storeD_some h3]
theorem rflush_s (p : Nat) (γ : Rg) (ρ : Rs) (σ : Ds) (a : Int) (k : Nat) (w : World) (hsim : Sim σ ρ) (hk : 8 * k < σ.ws.length) (h0 : 64 * (k : Int) ≤ a) (h1 : a < 64 * (k : Int) + 64) (hs : σ.steps + 1 ≤ 1099511627776) (hno : deadB σ = false) (hd : (RDev p γ ρ).holds w) :
    RDevP Tryz.prog 80 [.pointer (some ⟨p, 0, none⟩), .int .i64 a] p γ ρ (.int .i64 0) (Sim (lineD σ k)) w := by
  have hl := hsim.len
  obtain ⟨l, hl⟩ : ∃ l, ρ.ls[k]? = some l := ⟨_, List.getElem?_eq_getElem (by omega)⟩
  exact (rflush_d p γ ρ a k l w hl h0 h1 (by rw [← hsim.now]; exact hs) (hsim.alive hno) hd).toP (hsim.flush hno hl)
theorem rfence_s (p : Nat) (γ : Rg) (ρ : Rs) (σ : Ds) (w : World) (hsim : Sim σ ρ) (hs : σ.steps + 1 ≤ 1099511627776) (hno : deadB σ = false) (hd : (RDev p γ ρ).holds w) :
    RDevP Tryz.prog 32 [.pointer (some ⟨p, 0, none⟩)] p γ ρ (.int .i64 0) (Sim (fenceD (stepD σ))) w :=
  (rfence_d p γ ρ w (by rw [← hsim.now]; exact hs) (hsim.alive hno) hd).toP (hsim.fence hno)
theorem rarm_s (p : Nat) (γ : Rg) (ρ : Rs) (σ : Ds) (m : Nat) (w : World) (hsim : Sim σ ρ) (hm : m ≤ 9223372036854775807) (hno : deadB σ = false) (hd : (RDev p γ ρ).holds w) :
    RDevP Tryz.prog 34 [.pointer (some ⟨p, 0, none⟩), .int .i64 (m : Int)] p γ ρ (.int .i64 0) (Sim (armD σ m)) w :=
  (rarm_d p γ ρ m w hm (hsim.alive hno) hd).toP (hsim.arm m)
theorem rflushAll_s (p : Nat) (γ : Rg) (ρ : Rs) (σ : Ds) (a n cnt : Nat) (w : World) (hsim : Sim σ ρ) (hwl : σ.ws.length ≤ 65536) (han : a + n ≤ 8 * σ.ws.length) (hct : cntP a n cnt) (hst : σ.steps + cnt ≤ 1099511627776) (hd : (RDev p γ ρ).holds w) :
    RDevP Tryz.prog 30 [.pointer (some ⟨p, 0, none⟩), .int .i64 (a : Int), .int .i64 (n : Int)] p γ ρ (.int .i64 (linesE (a / 64) σ cnt).1) (Sim (linesE (a / 64) σ cnt).2) w := by
 refine enterRc hd Tryz.func30 rfl Tryz.ntmps30 rfl ?_
 obtain ⟨hQ, hg⟩ := RDev.facts hd
 have hln := hg.len
 have hps := hg.pos
 have hnw := hg.now
 have hsl := hsim.len
 obtain ⟨hc0, hc1⟩ := hct
 simp only [envOf]
 refine tR ?_
 refine tA rfl rfl ?_
 refine tE ?_
 refine At.seq ?_
 refine tR ?_
 refine tM rfl rfl ?_
 refine tM rfl rfl ?_
 refine tM rfl rfl ?_
 refine At.callK 0 rfl (fun w hw hr => inside_k _ _ _ _ _ w hr) Tryz.call79 rfl rfl ?_
 refine At.val (Val.not rfl) rfl rfl rfl ?_
 refine tE ?_
 refine At.cond rfl (fun h1 => ?_) (fun h1 => ?_)
 ·skip
  try simp only [hasB, isSizeB, Bool.not_eq_true', Bool.not_eq_false', bne_iff_ne, ne_eq, bne_eq_false_iff_eq, beq_iff_eq, beq_eq_false_iff_ne, decide_eq_true_eq, decide_eq_false_iff_not, gt_iff_lt, ge_iff_le] at h1
  simp only [hasR, decide_eq_false_iff_not] at h1; omega
 ·skip
  try simp only [hasB, isSizeB, Bool.not_eq_true', Bool.not_eq_false', bne_iff_ne, ne_eq, bne_eq_false_iff_eq, beq_iff_eq, beq_eq_false_iff_ne, decide_eq_true_eq, decide_eq_false_iff_not, gt_iff_lt, ge_iff_le] at h1
  refine At.skipC ?_
  refine At.thenN ?_
  refine At.seq ?_
  refine tR ?_
  refine tM rfl rfl ?_
  refine At.val (Val.bin rfl rfl rfl) rfl rfl rfl ?_
  refine tE ?_
  refine At.cond rfl (fun h2 => ?_) (fun h2 => ?_)
  ·skip
   try simp only [hasB, isSizeB, Bool.not_eq_true', Bool.not_eq_false', bne_iff_ne, ne_eq, bne_eq_false_iff_eq, beq_iff_eq, beq_eq_false_iff_ne, decide_eq_true_eq, decide_eq_false_iff_not, gt_iff_lt, ge_iff_le] at h2
   obtain rfl : cnt = 0 := hc0 (by omega)
   refine tR ?_
   refine tA rfl rfl ?_
   refine tE ?_
   refine At.retC ?_
   refine At.thenR ?_
   refine At.ret1 (.inl rfl) rfl rfl rfl (fun w hw => ?_)
   exact ⟨_, _, rfl, hsim, hw⟩
  ·skip
   try simp only [hasB, isSizeB, Bool.not_eq_true', Bool.not_eq_false', bne_iff_ne, ne_eq, bne_eq_false_iff_eq, beq_iff_eq, beq_eq_false_iff_ne, decide_eq_true_eq, decide_eq_false_iff_not, gt_iff_lt, ge_iff_le] at h2
   have hn0 : 0 < n := by omega
   refine At.skipC ?_
   refine At.thenN ?_
   refine At.seq ?_
   refine tR ?_
   refine tM rfl rfl ?_
   first | refine At.val (Val.quoI rfl rfl (by omega) (by omega) (by decide)) rfl rfl rfl ?_ | refine At.val (Val.quo rfl rfl (by decide)) rfl rfl rfl ?_
   refine tA rfl rfl ?_
   refine tE ?_
   refine At.block ?_
   skip
   refine At.loop (σ := (Nat × Ds) × Rg × Rs) (fun s => s.1.1 ≤ cnt ∧ linesE (a / 64) σ cnt = linesE (a / 64 + s.1.1) s.1.2 (cnt - s.1.1) ∧ s.1.2.ws.length = σ.ws.length ∧ s.1.2.steps = σ.steps + s.1.1 ∧ Sim s.1.2 s.2.2) (fun s => [(0, .pointer (some ⟨p, 0, none⟩)), (1, .int .i64 (a : Int)), (2, .int .i64 (n : Int)), (7, .int .i64 (((a / 64 : Nat) : Int) + (s.1.1 : Int)))]) (fun s => [RDev p s.2.1 s.2.2]) (fun s => cnt - s.1.1) ((0, σ), γ, ρ) ⟨Nat.zero_le _, rfl, rfl, rfl, hsim⟩ (Sub.cons rfl (Sub.cons rfl (Sub.cons rfl (Sub.cons (congrArg (fun z => some (Value.int IntKind.i64 z)) (by dsimp only; omega)) Sub.nil)))) (List.Perm.refl _) ?_
   intro s hs
   obtain ⟨⟨j, σ1⟩, γ1, ρ1⟩ := s
   dsimp only at hs ⊢
   obtain ⟨hj, he, hl1, hs1, hsim1⟩ := hs
   have hsl1 := hsim1.len
   refine At.seq ?_
   refine tR ?_
   refine tM rfl rfl ?_
   refine At.weaken [(0, _), (1, _), (2, _), (7, _), (18, _)] (Sub.cons rfl (Sub.cons rfl (Sub.cons rfl (Sub.cons rfl (Sub.cons rfl Sub.nil))))) ?_
   refine At.boolMeet 6 24 (decide (j < cnt)) ?_ ?_
   ·skip
    simp only [List.take_succ_cons, List.take_zero]
    refine tM rfl rfl ?_
    refine tM rfl rfl ?_
    first | refine At.val (Val.addI rfl rfl (by omega) (by omega)) rfl rfl rfl ?_ | refine At.val (Val.bin rfl rfl rfl) rfl rfl rfl ?_
    first | refine At.val (Val.subI rfl rfl (by omega) (by omega)) rfl rfl rfl ?_ | refine At.val (Val.bin rfl rfl rfl) rfl rfl rfl ?_
    first | refine At.val (Val.quoI rfl rfl (by omega) (by omega) (by decide)) rfl rfl rfl ?_ | refine At.val (Val.quo rfl rfl (by decide)) rfl rfl rfl ?_
    refine At.val (Val.bin rfl rfl rfl) rfl rfl rfl ?_
    refine At.nil ?_
    exact At.boolEnd rfl (by apply Bool.eq_iff_iff.2; (simp only [decide_eq_true_eq, Bool.false_eq_true, false_iff, true_iff, gt_iff_lt, ge_iff_le]) <;> omega) (by repeat (first | exact Sub.nil | refine Sub.cons rfl ?_))
   ·skip
    simp only [List.drop_succ_cons, List.drop_zero]
    refine tE ?_
    refine At.cond rfl (fun h3 => ?_) (fun h3 => ?_)
    ·skip
     try simp only [hasB, isSizeB, Bool.not_eq_true', Bool.not_eq_false', bne_iff_ne, ne_eq, bne_eq_false_iff_eq, beq_iff_eq, beq_eq_false_iff_ne, decide_eq_true_eq, decide_eq_false_iff_not, gt_iff_lt, ge_iff_le] at h3
     refine At.skipC ?_
     refine At.thenN ?_
     refine At.seq ?_
     refine At.block ?_
     refine tR ?_
     refine tM rfl rfl ?_
     refine tM rfl rfl ?_
     first | refine At.val (Val.mulI rfl rfl (by omega) (by omega)) rfl rfl rfl ?_ | refine At.val (Val.bin rfl rfl rfl) rfl rfl rfl ?_
     cases hdb : deadB σ1
     ·skip
      refine At.callRP 0 rfl (fun w hw hr => rflush_s _ _ _ σ1 _ (a / 64 + j) w hsim1 (by omega) (by omega) (by omega) (by omega) hdb hr) Tryz.call80 rfl rfl (fun y4 r5 hs6 => ?_)
      simp only [sc0, scS]
      refine tA rfl rfl ?_
      refine tE ?_
      refine tR ?_
      refine tM rfl rfl ?_
      refine At.val (Val.bin rfl rfl rfl) rfl rfl rfl ?_
      refine tE ?_
      refine At.condF rfl ?_
      refine At.skipC ?_
      refine At.blkN ?_
      refine At.thenN ?_
      refine At.region ?_
      refine tM rfl rfl ?_
      first | refine At.val (Val.addI rfl rfl (by omega) (by omega)) rfl rfl rfl ?_ | refine At.val (Val.bin rfl rfl rfl) rfl rfl rfl ?_
      refine tA rfl rfl ?_
      refine tE ?_
      exact At.again ((j + 1, lineD σ1 (a / 64 + j)), y4, r5) ⟨(show j + 1 ≤ cnt by omega), (by rw [he, show cnt - j = (cnt - (j + 1)) + 1 by omega, linesE_live hdb]; rfl), (lineD_rest σ1 _).2.2.trans hl1, (show (lineD σ1 (a / 64 + j)).steps = σ.steps + (j + 1) by have := (lineD_rest σ1 (a / 64 + j)).1; omega), hs6⟩ (by dsimp only; omega) (Sub.cons rfl (Sub.cons rfl (Sub.cons rfl (Sub.cons (congrArg (fun z => some (Value.int IntKind.i64 z)) (by dsimp only; omega)) Sub.nil)))) (List.Perm.refl _)
     ·skip
      refine At.callK 0 rfl (fun w hw hr => rflush_0 _ _ _ _ w (by omega) (by omega) (hsim1.isdead hdb) hr) Tryz.call80 rfl rfl ?_
      refine tA rfl rfl ?_
      refine tE ?_
      refine tR ?_
      refine tM rfl rfl ?_
      refine At.val (Val.bin rfl rfl rfl) rfl rfl rfl ?_
      refine tE ?_
      refine At.condT rfl ?_
      refine tR ?_
      refine tM rfl rfl ?_
      refine tA rfl rfl ?_
      refine tE ?_
      refine At.retC ?_
      refine At.blkR ?_
      refine At.thenR ?_
      refine At.thenR ?_
      refine At.blkR ?_
      refine At.thenR ?_
      refine At.ret1 (.inl rfl) rfl rfl rfl (fun w hw => ?_)
      rw [he, show cnt - j = (cnt - j - 1) + 1 by omega, linesE_dead hdb]
      exact ⟨_, _, rfl, hsim1, hw⟩
    ·skip
     try simp only [hasB, isSizeB, Bool.not_eq_true', Bool.not_eq_false', bne_iff_ne, ne_eq, bne_eq_false_iff_eq, beq_iff_eq, beq_eq_false_iff_ne, decide_eq_true_eq, decide_eq_false_iff_not, gt_iff_lt, ge_iff_le] at h3
     refine At.exitC ?_
     refine At.thenX ?_
     refine At.thenX ?_
     refine At.blkX ?_
     refine At.thenN ?_
     refine tR ?_
     refine tA rfl rfl ?_
     refine tE ?_
     refine At.retC ?_
     refine At.ret1 (.inl rfl) rfl rfl rfl (fun w hw => ?_)
     rw [he, show cnt - j = 0 by omega]
     exact ⟨_, _, rfl, hsim1, hw⟩
theorem rflushAll_no (p : Nat) (γ : Rg) (ρ : Rs) (a n : Int) (w : World) (ha : hasR ρ a n = false) (hd : (RDev p γ ρ).holds w) :
    Upd Tryz.prog 30 [.pointer (some ⟨p, 0, none⟩), .int .i64 a, .int .i64 n] (RDev p γ ρ) (.int .i64 11) (RDev p γ ρ) w := by
 refine enterRc hd Tryz.func30 rfl Tryz.ntmps30 rfl ?_
 obtain ⟨hQ, hg⟩ := RDev.facts hd
 have hln := hg.len
 have hps := hg.pos
 have hnw := hg.now
 simp only [envOf]
 refine tR ?_
 refine tA rfl rfl ?_
 refine tE ?_
 refine At.seq ?_
 refine tR ?_
 refine tM rfl rfl ?_
 refine tM rfl rfl ?_
 refine tM rfl rfl ?_
 refine At.callK 0 rfl (fun w hw hr => inside_k _ _ _ _ _ w hr) Tryz.call79 rfl rfl ?_
 refine At.val (Val.not rfl) rfl rfl rfl ?_
 refine tE ?_
 refine At.cond rfl (fun h1 => ?_) (fun h1 => ?_)
 ·skip
  refine tR ?_
  refine tA rfl rfl ?_
  refine tE ?_
  refine At.retC ?_
  refine At.thenR ?_
  refine At.ret1 (.inl rfl) rfl rfl rfl (fun w hw => ?_)
  exact ⟨rfl, hw⟩
 ·skip
  rw [ha] at h1; cases h1
end Go.Proofs.YthhkbbodhghmcaaGreatDoor
set_option linter.unusedVariables false
set_option linter.unusedSimpArgs false
namespace Go.Proofs.YthhkbbodhghmcaaGreatDoor
open Go Go.Wk
theorem sealR_p (a : Int) (v : BitVec 32) (w : World) :
    PureC Tryz.prog 60 [.int .i64 a, b32 v] (b64 (sealW (BitVec.ofInt 64 a) v)) w := by
 refine enter0 Tryz.func60 rfl Tryz.ntmps60 rfl ?_
 simp only [envOf]
 refine tR ?_
 refine tA rfl rfl ?_
 refine tE ?_
 refine At.seq ?_
 refine tR ?_
 refine tM rfl rfl ?_
 refine At.val (Val.bin rfl rfl rfl) rfl rfl rfl ?_
 refine tE ?_
 refine At.cond rfl (fun h1 => ?_) (fun h1 => ?_)
 ·skip
  refine tR ?_
  refine tA rfl rfl ?_
  refine tE ?_
  refine At.retC ?_
  refine At.thenR ?_
  refine At.ret1 (.inl rfl) rfl rfl rfl (fun w hw => ?_)
  exact ⟨by rw [seal_zero (by have := h1; simp at this; exact BitVec.eq_of_toNat_eq (by simpa using this))]; rfl, hw.mod⟩
 ·skip
  refine At.skipC ?_
  refine At.thenN ?_
  refine tR ?_
  refine tA rfl rfl ?_
  refine tE ?_
  refine tR ?_
  refine tM rfl rfl ?_
  refine tM rfl rfl ?_
  refine At.val (Val.conv Tryz.underlying3 Tryz.underlying32 rfl) rfl rfl rfl ?_
  rw [wrap_u64_int]
  refine At.rowNil 5 1 ?_
  refine At.callR 0 rfl (fun w hw hr => rlay_p _ [] (BitVec.ofInt 64 a).toNat 8 w hr (by have := (BitVec.ofInt 64 a).isLt; omega) (by decide) (by decide)) Tryz.call94 rfl rfl (fun v2 => ?_)
  simp only [sc0, scS]
  refine tA rfl rfl ?_
  refine tE ?_
  refine tR ?_
  refine tM rfl rfl ?_
  refine tM rfl rfl ?_
  refine At.val (Val.conv Tryz.underlying76 Tryz.underlying32 rfl) rfl rfl rfl ?_
  rw [wrap_u64 (n := (v.toNat : Int)) (by omega) (by have := v.isLt; omega)]
  refine At.callR 0 rfl (fun w hw hr => rlay_p _ ([] ++ le 8 (BitVec.ofInt 64 a).toNat) v.toNat 4 w hr (by have := v.isLt; omega) (by decide) (by simp [le_length])) Tryz.call94 rfl rfl (fun v3 => ?_)
  simp only [sc0, scS]
  refine tA rfl rfl ?_
  refine At.nil ?_
  refine At.rowIs (i := 0) rfl (fun A4 c5 hv => ?_)
  subst hv
  refine At.thenN ?_
  refine tR ?_
  refine tM rfl rfl ?_
  refine At.callP (fun w hw => rsum_n A4 ([] ++ le 8 (BitVec.ofInt 64 a).toNat ++ le 4 v.toNat) _ c5 w rfl (row_bytes (hw.row (i := 0) rfl)) (by simp [le_length])) Tryz.call95 rfl rfl ?_
  refine tA rfl rfl ?_
  refine tE ?_
  refine tR ?_
  refine tM rfl rfl ?_
  refine At.val (Val.conv Tryz.underlying76 Tryz.underlying32 rfl) rfl rfl rfl ?_
  refine At.val (Val.bin rfl rfl rfl) rfl rfl rfl ?_
  refine tM rfl rfl ?_
  refine At.val (Val.conv Tryz.underlying76 Tryz.underlying32 rfl) rfl rfl rfl ?_
  refine At.val (Val.bin rfl rfl rfl) rfl rfl rfl ?_
  refine tA rfl rfl ?_
  refine tE ?_
  refine At.retC ?_
  refine At.ret1 (.inl rfl) rfl rfl rfl (fun w hw => ?_)
  have hv : v ≠ 0 := by intro e; subst e; simp at h1
  have hn := seal_nat (a := (BitVec.ofInt 64 a)) hv
  have hl := (checkW (BitVec.ofInt 64 a) v).isLt
  have hl2 := v.isLt
  exact ⟨retI (by rw [show sumOn 0 ([] ++ le 8 (BitVec.ofInt 64 a).toNat ++ le 4 v.toNat) = checkW (BitVec.ofInt 64 a) v from rfl, wrap_u64 (n := ((checkW (BitVec.ofInt 64 a) v).toNat : Int)) (by omega) (by omega), wrap_u64 (n := ((checkW (BitVec.ofInt 64 a) v).toNat : Int) * 4294967296) (by omega) (by omega), wrap_u64 (n := (v.toNat : Int)) (by omega) (by omega), wrap_u64 (by omega) (by omega), hn]; omega), hw.mod⟩
theorem unsealR_p (a : Int) (x : BitVec 64) (w : World) :
    PureC Tryz.prog 71 [.int .i64 a, b64 x] (unsealV (BitVec.ofInt 64 a) x) w := by
 refine enter0 Tryz.func71 rfl Tryz.ntmps71 rfl ?_
 simp only [envOf]
 refine tR ?_
 refine tA rfl rfl ?_
 refine tA rfl rfl ?_
 refine tE ?_
 refine tR ?_
 refine tM rfl rfl ?_
 refine At.val (Val.rem rfl rfl (by decide)) rfl rfl rfl ?_
 refine At.val (Val.conv Tryz.underlying32 Tryz.underlying76 rfl) rfl rfl rfl ?_
 rw [low32]
 refine tA rfl rfl ?_
 refine tE ?_
 refine tR ?_
 refine tM rfl rfl ?_
 refine tM rfl rfl ?_
 refine At.callP (fun w hw => sealR_p _ _ w) Tryz.call60 rfl rfl ?_
 refine tA rfl rfl ?_
 refine tE ?_
 refine At.seq ?_
 refine tR ?_
 refine tM rfl rfl ?_
 refine tM rfl rfl ?_
 refine At.val (Val.bin rfl rfl rfl) rfl rfl rfl ?_
 refine tE ?_
 refine At.cond rfl (fun h1 => ?_) (fun h1 => ?_)
 ·skip
  refine tR ?_
  refine tA rfl rfl ?_
  refine tA rfl rfl ?_
  refine tE ?_
  refine At.retC ?_
  refine At.thenR ?_
  refine At.ret2 (.inl rfl) rfl rfl rfl rfl (fun w hw => ?_)
  exact ⟨by rw [unseal_no (bv_ne64 h1)], hw.mod⟩
 ·skip
  refine At.skipC ?_
  refine At.thenN ?_
  refine tR ?_
  refine tM rfl rfl ?_
  refine tA rfl rfl ?_
  refine tA rfl rfl ?_
  refine tE ?_
  refine At.retC ?_
  refine At.ret2 (.inl rfl) rfl rfl rfl rfl (fun w hw => ?_)
  exact ⟨by rw [unseal_yes (bv_eq64 h1)], hw.mod⟩
def GoodH (p n o : Int) : Prop := 5 ≤ p ∧ p ≤ 1023 ∧ 1 ≤ o ∧ o ≤ 256 ∧ (n = 0 ∨ 5 ≤ n ∧ n ≤ 1023)
instance (p n o : Int) : Decidable (GoodH p n o) := by unfold GoodH; infer_instance
def GoodH1 (n o : Int) : Prop := 1 ≤ o ∧ o ≤ 256 ∧ (n = 0 ∨ 5 ≤ n ∧ n ≤ 1023)
instance (n o : Int) : Decidable (GoodH1 n o) := by unfold GoodH1; infer_instance
end Go.Proofs.YthhkbbodhghmcaaGreatDoor
set_option linter.unusedVariables false
set_option linter.unusedSimpArgs false
namespace Go.Proofs.YthhkbbodhghmcaaGreatDoor
open Go Go.Wk
abbrev tAc : TypeId := 125
def acN : Ac → Nt
  | .st k x => (1, 8 * (k : Int), x)
  | .fl l => (2, 64 * (l : Int), 0)
  | .fe => (3, 0, 0)
def acC (L : List Ac) : List Value := nC (L.map acN)
theorem acC_snoc (L : List Ac) (a : Ac) : acC (L ++ [a]) = acC L ++ [.int .i64 (acN a).1, .int .i64 (acN a).2.1, b64 (acN a).2.2] := by unfold acC nC; simp
abbrev arow (v : Value) (L : List Ac) : Res := rowR v tAc 3 L.length (acC L)
theorem arow_rdN {w : World} {v : Value} {L : List Ac} (h : w.ownsRow 0 tAc 3 v L.length (acC L)) : RdN w v (L.map acN) := by
  have := row_rd h (by decide)
  unfold RdN
  rw [List.length_map]; exact this
theorem ac_st {a : Ac} (h : (acN a).1 = 1) : ∃ k x, a = .st k x := by cases a with
  | st k x => exact ⟨k, x, rfl⟩
  | fl l => exact absurd (show (2 : Int) = 1 from h) (by decide)
  | fe => exact absurd (show (3 : Int) = 1 from h) (by decide)
theorem ac_fl {a : Ac} (h : (acN a).1 = 2) : ∃ l, a = .fl l := by cases a with
  | st k x => exact absurd (show (1 : Int) = 2 from h) (by decide)
  | fl l => exact ⟨l, rfl⟩
  | fe => exact absurd (show (3 : Int) = 2 from h) (by decide)
theorem ac_fe {a : Ac} (h : ¬ (acN a).1 = 1) (h' : ¬ (acN a).1 = 2) : a = .fe := by cases a with
  | st k x => exact absurd rfl h
  | fl l => exact absurd rfl h'
  | fe => rfl
theorem drop_consA {L : List Ac} {k : Nat} {a : Ac} (h : L[k]? = some a) : L.drop k = a :: L.drop (k + 1) := by
  have hk := List.getElem?_eq_some_iff.1 h
  rw [List.drop_eq_getElem_cons hk.1, hk.2]
theorem flA_snoc : ∀ (c l : Nat), flA l (c + 1) = flA l c ++ [.fl (l + c)]
  | 0, l => rfl
  | c + 1, l => by
    rw [flA, flA_snoc c (l + 1), flA, List.cons_append, show l + 1 + c = l + (c + 1) by omega]
theorem stA_snoc : ∀ (ws : List (BitVec 64)) (k : Nat) (x : BitVec 64), stA k (ws ++ [x]) = stA k ws ++ [.st (k + ws.length) x]
  | [], k, x => rfl
  | y :: ws, k, x => by
    rw [List.cons_append, stA, stA_snoc ws (k + 1) x, stA, List.cons_append, List.length_cons, show k + 1 + ws.length = k + (ws.length + 1) by omega]
theorem ast_n (v : Value) (L : List Ac) (k : Nat) (x : BitVec 64) (w : World) (ho : w.ownsRow 0 tAc 3 v L.length (acC L)) (hl : L.length + 1 ≤ 1000000) :
    RowUpd Tryz.prog 57 [v, .int .i64 (8 * (k : Int)), b64 x] v tAc 3 L.length (acC L) (L ++ [Ac.st k x]).length (acC (L ++ [Ac.st k x])) w := by
 refine enter (feet [arow v L]) [arow v L] Tryz.func57 rfl Tryz.ntmps57 rfl (Rep.one ho) ?_
 simp only [envOf]
 refine tR ?_
 refine tA rfl rfl ?_
 refine tE ?_
 refine tR ?_
 refine tM rfl rfl ?_
 refine tM rfl rfl ?_
 refine tM rfl rfl ?_
 refine At.val (Val.build (fun a ha => by simp only [List.map_toArray, List.map_cons, List.map_nil, ha.eval (x := (.const (.int .i64 (1)))) rfl, ha.eval (x := (.tmp 8)) rfl, ha.eval (x := (.tmp 9)) rfl] <;> rfl) (bld_125_0_1_2 _ _ _ )) rfl rfl rfl ?_
 refine At.buildSl (fun a ha => by simp only [List.map_toArray, List.map_cons, List.map_nil, ha.eval (x := (.tmp 10)) rfl]; try rfl) (bs_77_1 _ _ _ ) rfl (fun b1 => ?_)
 refine At.append (i := 1) (sz := 3) (by_ := 24) Tryz.underlying77 info_125 rfl rfl rfl rfl rfl rfl rfl rfl rfl (fun w hw j u hj => by rw [Nat.zero_add]; exact ((hw.blk (i := 0) rfl).cell j).trans hj) (by simp [Value.oneCell']) (by omega) (by omega) rfl (fun v2 => ?_)
 simp only [sc0, scS]
 refine At.drop 0 ?_
 simp only [ec0, ecS]
 refine tA rfl rfl ?_
 refine tE ?_
 refine At.retC ?_
 refine At.ret1 (.inl rfl) rfl rfl rfl (fun w hw => ?_)
 rw [acC_snoc, List.length_append, List.length_singleton]
 exact ⟨_, rfl, hw⟩
theorem afl_n (v : Value) (L : List Ac) (l : Nat) (w : World) (ho : w.ownsRow 0 tAc 3 v L.length (acC L)) (hl : L.length + 1 ≤ 1000000) :
    RowUpd Tryz.prog 61 [v, .int .i64 (64 * (l : Int))] v tAc 3 L.length (acC L) (L ++ [Ac.fl l]).length (acC (L ++ [Ac.fl l])) w := by
 refine enter (feet [arow v L]) [arow v L] Tryz.func61 rfl Tryz.ntmps61 rfl (Rep.one ho) ?_
 simp only [envOf]
 refine tR ?_
 refine tA rfl rfl ?_
 refine tE ?_
 refine tR ?_
 refine tM rfl rfl ?_
 refine tM rfl rfl ?_
 refine At.val (Val.build (fun a ha => by simp only [List.map_toArray, List.map_cons, List.map_nil, ha.eval (x := (.const (.int .i64 (2)))) rfl, ha.eval (x := (.tmp 6)) rfl] <;> rfl) (bld_125_0_1 _ _ )) rfl rfl rfl ?_
 refine At.buildSl (fun a ha => by simp only [List.map_toArray, List.map_cons, List.map_nil, ha.eval (x := (.tmp 7)) rfl]; try rfl) (bs_77_1 _ _ _ ) rfl (fun b1 => ?_)
 refine At.append (i := 1) (sz := 3) (by_ := 24) Tryz.underlying77 info_125 rfl rfl rfl rfl rfl rfl rfl rfl rfl (fun w hw j u hj => by rw [Nat.zero_add]; exact ((hw.blk (i := 0) rfl).cell j).trans hj) (by simp [Value.oneCell']) (by omega) (by omega) rfl (fun v2 => ?_)
 simp only [sc0, scS]
 refine At.drop 0 ?_
 simp only [ec0, ecS]
 refine tA rfl rfl ?_
 refine tE ?_
 refine At.retC ?_
 refine At.ret1 (.inl rfl) rfl rfl rfl (fun w hw => ?_)
 rw [acC_snoc, List.length_append, List.length_singleton]
 exact ⟨_, rfl, hw⟩
theorem afe_n (v : Value) (L : List Ac) (w : World) (ho : w.ownsRow 0 tAc 3 v L.length (acC L)) (hl : L.length + 1 ≤ 1000000) :
    RowUpd Tryz.prog 59 [v] v tAc 3 L.length (acC L) (L ++ [Ac.fe]).length (acC (L ++ [Ac.fe])) w := by
 refine enter (feet [arow v L]) [arow v L] Tryz.func59 rfl Tryz.ntmps59 rfl (Rep.one ho) ?_
 simp only [envOf]
 refine tR ?_
 refine tA rfl rfl ?_
 refine tE ?_
 refine tR ?_
 refine tM rfl rfl ?_
 refine At.val (Val.build (fun a ha => by simp only [List.map_toArray, List.map_cons, List.map_nil, ha.eval (x := (.const (.int .i64 (3)))) rfl] <;> rfl) (bld_125_0 _ )) rfl rfl rfl ?_
 refine At.buildSl (fun a ha => by simp only [List.map_toArray, List.map_cons, List.map_nil, ha.eval (x := (.tmp 4)) rfl]; try rfl) (bs_77_1 _ _ _ ) rfl (fun b1 => ?_)
 refine At.append (i := 1) (sz := 3) (by_ := 24) Tryz.underlying77 info_125 rfl rfl rfl rfl rfl rfl rfl rfl rfl (fun w hw j u hj => by rw [Nat.zero_add]; exact ((hw.blk (i := 0) rfl).cell j).trans hj) (by simp [Value.oneCell']) (by omega) (by omega) rfl (fun v2 => ?_)
 simp only [sc0, scS]
 refine At.drop 0 ?_
 simp only [ec0, ecS]
 refine tA rfl rfl ?_
 refine tE ?_
 refine At.retC ?_
 refine At.ret1 (.inl rfl) rfl rfl rfl (fun w hw => ?_)
 rw [acC_snoc, List.length_append, List.length_singleton]
 exact ⟨_, rfl, hw⟩
theorem forgot_n (v : Value) (L : List Ac) (w : World) (ho : w.ownsRow 0 tAc 3 v L.length (acC L)) (hl : L.length + 3 ≤ 1000000) :
    RowUpd Tryz.prog 38 [v] v tAc 3 L.length (acC L) (L ++ cleanA 0).length (acC (L ++ cleanA 0)) w := by
 refine enter (feet [arow v L]) [arow v L] Tryz.func38 rfl Tryz.ntmps38 rfl (Rep.one ho) ?_
 simp only [envOf]
 refine tR ?_
 refine tA rfl rfl ?_
 refine tE ?_
 refine tR ?_
 refine tM rfl rfl ?_
 refine At.callR 0 (n := L.length) (xs := acC L) rfl (fun w hw hr => ast_n _ L 16 0 w hr (by first | omega | (simp only [List.length_append, List.length_cons, List.length_nil]; omega))) Tryz.call57 rfl rfl (fun v1 => ?_)
 simp only [sc0, scS]
 refine tA rfl rfl ?_
 refine tE ?_
 refine tR ?_
 refine tM rfl rfl ?_
 refine At.callR 0 (n := (L ++ [Ac.st 16 0]).length) (xs := acC (L ++ [Ac.st 16 0])) rfl (fun w hw hr => afl_n _ (L ++ [Ac.st 16 0]) 2 w hr (by first | omega | (simp only [List.length_append, List.length_cons, List.length_nil]; omega))) Tryz.call61 rfl rfl (fun v2 => ?_)
 simp only [sc0, scS]
 refine tA rfl rfl ?_
 refine tE ?_
 refine tR ?_
 refine tM rfl rfl ?_
 refine At.callR 0 (n := ((L ++ [Ac.st 16 0]) ++ [Ac.fl 2]).length) (xs := acC ((L ++ [Ac.st 16 0]) ++ [Ac.fl 2])) rfl (fun w hw hr => afe_n _ ((L ++ [Ac.st 16 0]) ++ [Ac.fl 2]) w hr (by first | omega | (simp only [List.length_append, List.length_cons, List.length_nil]; omega))) Tryz.call59 rfl rfl (fun v3 => ?_)
 simp only [sc0, scS]
 refine tA rfl rfl ?_
 refine tE ?_
 refine At.retC ?_
 refine At.ret1 (.inl rfl) rfl rfl rfl (fun w hw => ?_)
 rw [show L ++ cleanA 0 = L ++ [.st 16 0] ++ [.fl 2] ++ [.fe] from by unfold cleanA; rw [seal_zero rfl]; simp]
 exact ⟨_, rfl, hw⟩
theorem flushes_n (v : Value) (L : List Ac) (a n cnt : Nat) (w : World) (ho : w.ownsRow 0 tAc 3 v L.length (acC L)) (hl : L.length + cnt ≤ 1000000) (ha : a % 64 = 0) (hb : a + n ≤ 1000000) (hc : cntP a n cnt) :
    RowUpd Tryz.prog 58 [v, .int .i64 (a : Int), .int .i64 (n : Int)] v tAc 3 L.length (acC L) (L ++ flA (a / 64) cnt).length (acC (L ++ flA (a / 64) cnt)) w := by
 refine enter (feet [arow v L]) [arow v L] Tryz.func58 rfl Tryz.ntmps58 rfl (Rep.one ho) ?_
 obtain ⟨hc0, hc1⟩ := hc
 simp only [envOf]
 refine tR ?_
 refine tA rfl rfl ?_
 refine tE ?_
 refine At.seq ?_
 refine tR ?_
 refine tM rfl rfl ?_
 refine tM rfl rfl ?_
 first | refine At.val (Val.remI rfl rfl (by omega) (by decide)) rfl rfl rfl ?_ | refine At.val (Val.rem rfl rfl (by decide)) rfl rfl rfl ?_
 first | refine At.val (Val.subI rfl rfl (by omega) (by omega)) rfl rfl rfl ?_ | refine At.val (Val.bin rfl rfl rfl) rfl rfl rfl ?_
 refine tA rfl rfl ?_
 refine tE ?_
 refine At.block ?_
 skip
 refine At.loop (σ := Nat × Value) (fun s => s.1 ≤ cnt) (fun s => [(0, s.2), (1, .int .i64 (a : Int)), (2, .int .i64 (n : Int)), (7, .int .i64 (64 * ((a / 64 : Nat) : Int) + 64 * (s.1 : Int)))]) (fun s => [arow s.2 (L ++ flA (a / 64) s.1)]) (fun s => cnt - s.1) (0, v) (Nat.zero_le _) (Sub.cons rfl (Sub.cons rfl (Sub.cons rfl (Sub.cons (congrArg (fun z => some (Value.int IntKind.i64 z)) (by dsimp only; omega)) Sub.nil)))) (by dsimp only; rw [show flA (a / 64) 0 = [] from rfl, List.append_nil]) ?_
 intro s hs
 obtain ⟨j, vk⟩ := s
 dsimp only at hs ⊢
 refine At.seq ?_
 refine tR ?_
 refine tM rfl rfl ?_
 refine tM rfl rfl ?_
 refine tM rfl rfl ?_
 first | refine At.val (Val.addI rfl rfl (by omega) (by omega)) rfl rfl rfl ?_ | refine At.val (Val.bin rfl rfl rfl) rfl rfl rfl ?_
 refine At.weaken [(0, _), (1, _), (2, _), (7, _), (12, _), (15, _)] (Sub.cons rfl (Sub.cons rfl (Sub.cons rfl (Sub.cons rfl (Sub.cons rfl (Sub.cons rfl Sub.nil)))))) ?_
 refine At.boolMeet 1 16 (decide (j < cnt)) ?_ ?_
 ·skip
  simp only [List.take_succ_cons, List.take_zero]
  refine At.val (Val.bin rfl rfl rfl) rfl rfl rfl ?_
  refine At.nil ?_
  exact At.boolEnd rfl (by apply Bool.eq_iff_iff.2; (simp only [decide_eq_true_eq, Bool.false_eq_true, false_iff, true_iff, gt_iff_lt, ge_iff_le]) <;> omega) (by repeat (first | exact Sub.nil | refine Sub.cons rfl ?_))
 ·skip
  simp only [List.drop_succ_cons, List.drop_zero]
  refine tE ?_
  refine At.cond rfl (fun h1 => ?_) (fun h1 => ?_)
  ·skip
   try simp only [hasB, isSizeB, Bool.not_eq_true', Bool.not_eq_false', bne_iff_ne, ne_eq, bne_eq_false_iff_eq, beq_iff_eq, beq_eq_false_iff_ne, decide_eq_true_eq, decide_eq_false_iff_not, gt_iff_lt, ge_iff_le] at h1
   refine At.skipC ?_
   refine At.thenN ?_
   refine At.seq ?_
   refine At.block ?_
   refine At.region ?_
   refine tM rfl rfl ?_
   refine tM rfl rfl ?_
   refine At.callR 0 (n := (L ++ flA (a / 64) j).length) (xs := acC (L ++ flA (a / 64) j)) rfl (fun w hw hr => (by have h0 := afl_n _ (L ++ flA (a / 64) j) (a / 64 + j) w hr (by rw [List.length_append, flA_len]; omega); rw [show 64 * (((a / 64 + j : Nat)) : Int) = 64 * ((a / 64 : Nat) : Int) + 64 * (j : Int) from by omega] at h0; exact h0)) Tryz.call61 rfl rfl (fun v2 => ?_)
   simp only [sc0, scS]
   refine tA rfl rfl ?_
   refine At.nil ?_
   refine At.blkN ?_
   refine At.thenN ?_
   refine At.region ?_
   refine tM rfl rfl ?_
   first | refine At.val (Val.addI rfl rfl (by omega) (by omega)) rfl rfl rfl ?_ | refine At.val (Val.bin rfl rfl rfl) rfl rfl rfl ?_
   refine tA rfl rfl ?_
   refine tE ?_
   exact At.again (j + 1, v2) (show j + 1 ≤ cnt by omega) (by dsimp only; omega) (Sub.cons rfl (Sub.cons rfl (Sub.cons rfl (Sub.cons (congrArg (fun z => some (Value.int IntKind.i64 z)) (by dsimp only; omega)) Sub.nil)))) (by dsimp only; rw [flA_snoc, ← List.append_assoc])
  ·skip
   try simp only [hasB, isSizeB, Bool.not_eq_true', Bool.not_eq_false', bne_iff_ne, ne_eq, bne_eq_false_iff_eq, beq_iff_eq, beq_eq_false_iff_ne, decide_eq_true_eq, decide_eq_false_iff_not, gt_iff_lt, ge_iff_le] at h1
   refine At.exitC ?_
   refine At.thenX ?_
   refine At.thenX ?_
   refine At.blkX ?_
   refine At.thenN ?_
   refine tR ?_
   refine tM rfl rfl ?_
   refine tA rfl rfl ?_
   refine tE ?_
   refine At.retC ?_
   refine At.ret1 (.inl rfl) rfl rfl rfl (fun w hw => ?_)
   rw [show j = cnt by omega] at hw
   exact ⟨_, rfl, hw⟩
theorem play_s (p : Nat) (γ : Rg) (ρ : Rs) (σ : Ds) (v : Value) (L : List Ac) (w : World) (hsim : Sim σ ρ) (hv : RdN w v (L.map acN)) (ho : Off v (nC (L.map acN)) (feet [RDev p γ ρ])) (hok : ∀ a ∈ L, AcOk σ.ws.length a) (hst : σ.steps + L.length ≤ 1099511627776) (hd : (RDev p γ ρ).holds w) :
    RDevP Tryz.prog 39 [.pointer (some ⟨p, 0, none⟩), v] p γ ρ (.int .i64 (actsE σ L).1) (Sim (actsE σ L).2) w := by
 refine enterRc hd Tryz.func39 rfl Tryz.ntmps39 rfl ?_
 obtain ⟨hQ, hg⟩ := RDev.facts hd
 have hln := hg.len
 have hps := hg.pos
 have hnw := hg.now
 have hlm : (L.map acN).length = L.length := List.length_map ..
 have hsl := hsim.len
 simp only [envOf]
 refine tR ?_
 refine tA rfl rfl ?_
 refine tE ?_
 refine At.seq ?_
 refine tR ?_
 refine tA rfl rfl ?_
 refine tE ?_
 refine At.block ?_
 skip
 refine At.loop (σ := (Nat × Ds) × (Rg × Rs)) (fun s => s.1.1 ≤ L.length ∧ actsE σ L = actsE s.1.2 (L.drop s.1.1) ∧ Sim s.1.2 s.2.2 ∧ s.1.2.ws.length = σ.ws.length ∧ s.1.2.steps = σ.steps + s.1.1) (fun s => [(0, .pointer (some ⟨p, 0, none⟩)), (1, v), (5, .int .i64 (s.1.1 : Int))]) (fun s => [RDev p s.2.1 s.2.2]) (fun s => L.length - s.1.1) ((0, σ), (γ, ρ)) ⟨Nat.zero_le _, rfl, hsim, rfl, rfl⟩ (Sub.cons rfl (Sub.cons rfl (Sub.cons rfl Sub.nil))) (List.Perm.refl _) ?_
 intro s hs
 obtain ⟨⟨k, σ1⟩, δ1, ρ1⟩ := s
 dsimp only at hs ⊢
 obtain ⟨hk, he, hsim1, hl1, hs1⟩ := hs
 have hsl1 := hsim1.len
 refine At.seq ?_
 refine tR ?_
 refine tM rfl rfl ?_
 refine tM rfl rfl ?_
 refine At.val (Val.lenRd hv Tryz.underlying77 rfl) rfl rfl rfl ?_
 refine At.val (Val.bin rfl rfl rfl) rfl rfl rfl ?_
 refine tE ?_
 refine At.cond rfl (fun h1 => ?_) (fun h1 => ?_)
 ·skip
  try simp only [hasB, isSizeB, Bool.not_eq_true', Bool.not_eq_false', bne_iff_ne, ne_eq, bne_eq_false_iff_eq, beq_iff_eq, beq_eq_false_iff_ne, decide_eq_true_eq, decide_eq_false_iff_not, gt_iff_lt, ge_iff_le] at h1
  obtain ⟨a, ha⟩ : ∃ a, L[k]? = some a := ⟨_, List.getElem?_eq_getElem (by omega)⟩
  have hq : (L.map acN)[k]? = some (acN a) := by rw [List.getElem?_map, ha]; rfl
  have hak := hok a (List.mem_of_getElem? ha)
  refine At.skipC ?_
  refine At.thenN ?_
  refine At.seq ?_
  refine At.block ?_
  refine tR ?_
  refine tA rfl rfl ?_
  refine tE ?_
  refine At.seq ?_
  refine tR ?_
  refine tM rfl rfl ?_
  refine tM rfl rfl ?_
  refine At.idxN hv Tryz.underlying77 Tryz.sizeOf125 rfl rfl (by omega) (by omega) rfl rfl (fun b2 o3 q4 hq5 hc6 hd7 he8 hO9 => ?_)
  obtain rfl : (acN a) = q4 := Option.some.inj (hq.symm.trans (by have := hq5; rwa [Int.toNat_natCast] at this))
  refine At.val (Val.field o3 rfl fo_125_0 rfl) rfl rfl rfl ?_
  refine At.val (Val.loadOld Tryz.isAgg3 rfl hc6 (hO9 _ ho)) rfl rfl rfl ?_
  refine tE ?_
  refine At.block ?_
  refine tR ?_
  refine At.val (Val.bin rfl rfl rfl) rfl rfl rfl ?_
  refine tA rfl rfl ?_
  refine tE ?_
  refine At.cond rfl (fun h10 => ?_) (fun h10 => ?_)
  ·skip
   try simp only [hasB, isSizeB, Bool.not_eq_true', Bool.not_eq_false', bne_iff_ne, ne_eq, bne_eq_false_iff_eq, beq_iff_eq, beq_eq_false_iff_ne, decide_eq_true_eq, decide_eq_false_iff_not, gt_iff_lt, ge_iff_le] at h10
   obtain ⟨K, x, hae⟩ := ac_st h10
   have hK : K < σ.ws.length := by rw [hae] at hak; exact hak
   refine At.tail 11 rfl (by decide +kernel) ?_
   simp only [List.take_succ_cons, List.take_zero, List.drop_succ_cons, List.drop_zero]
   refine qM rfl rfl ?_
   refine qM rfl rfl ?_
   refine qM rfl rfl ?_
   refine QAt.idxN hv Tryz.underlying77 Tryz.sizeOf125 rfl rfl (by omega) (by omega) rfl rfl (fun b11 o12 q13 hq14 hc15 hd16 he17 hO18 => ?_)
   obtain rfl : (acN a) = q13 := Option.some.inj (hq.symm.trans (by have := hq14; rwa [Int.toNat_natCast] at this))
   refine QAt.val (Val.field (o12 + 1) rfl fo_125_1 rfl) rfl rfl rfl ?_
   refine QAt.val (Val.loadOld Tryz.isAgg3 rfl hd16 (hO18 _ ho)) rfl rfl rfl ?_
   refine qM rfl rfl ?_
   refine qM rfl rfl ?_
   refine QAt.idxN hv Tryz.underlying77 Tryz.sizeOf125 rfl rfl (by omega) (by omega) rfl rfl (fun b19 o20 q21 hq22 hc23 hd24 he25 hO26 => ?_)
   obtain rfl : (acN a) = q21 := Option.some.inj (hq.symm.trans (by have := hq22; rwa [Int.toNat_natCast] at this))
   refine QAt.val (Val.field (o20 + 2) rfl fo_125_2 rfl) rfl rfl rfl ?_
   refine QAt.val (Val.loadOld Tryz.isAgg32 rfl he25 (hO26 _ ho)) rfl rfl rfl ?_
   refine QAt.fin ?_
   subst hae
   cases hdb : deadB σ1
   ·skip
    refine At.callRP 0 rfl (fun w hw hr => rstore_s _ _ _ σ1 K x w hsim1 (by omega) (by omega) hdb hr) Tryz.call26 rfl rfl (fun y27 r28 hs29 => ?_)
    simp only [sc0, scS]
    refine tA rfl rfl ?_
    refine At.nil ?_
    refine At.blkN ?_
    refine At.thenN ?_
    refine tR ?_
    refine tM rfl rfl ?_
    refine At.val (Val.bin rfl rfl rfl) rfl rfl rfl ?_
    refine tE ?_
    refine At.condF rfl ?_
    refine At.skipC ?_
    refine At.blkN ?_
    refine At.thenN ?_
    refine At.region ?_
    refine tM rfl rfl ?_
    first | refine At.val (Val.addI rfl rfl (by omega) (by omega)) rfl rfl rfl ?_ | refine At.val (Val.bin rfl rfl rfl) rfl rfl rfl ?_
    refine tA rfl rfl ?_
    refine tE ?_
    exact At.again ((k + 1, stepA σ1 (.st K x)), (y27, r28)) (by obtain ⟨s1, s2, s3⟩ := stepA_rest (σ := σ1) (a := (.st K x)) (by rw [hl1]; exact hak); exact ⟨(show k + 1 ≤ L.length by omega), (by dsimp only; rw [he, drop_consA ha, actsE_live hdb]), hs29, s3.trans hl1, (by dsimp only; omega)⟩) (by dsimp only; omega) (Sub.cons rfl (Sub.cons rfl (Sub.cons (congrArg (fun z => some (Value.int IntKind.i64 z)) (by dsimp only; omega)) Sub.nil))) (List.Perm.refl _)
   ·skip
    refine At.callK 0 rfl (fun w hw hr => rstore_0 _ _ _ _ _ w (by rw [hsim1.wrong]; exact place_at (by omega)) (hsim1.isdead hdb) hr) Tryz.call26 rfl rfl ?_
    refine tA rfl rfl ?_
    refine At.nil ?_
    refine At.blkN ?_
    refine At.thenN ?_
    refine tR ?_
    refine tM rfl rfl ?_
    refine At.val (Val.bin rfl rfl rfl) rfl rfl rfl ?_
    refine tE ?_
    refine At.condT rfl ?_
    refine tR ?_
    refine tM rfl rfl ?_
    refine tA rfl rfl ?_
    refine tE ?_
    refine At.retC ?_
    refine At.blkR ?_
    refine At.thenR ?_
    refine At.thenR ?_
    refine At.blkR ?_
    refine At.thenR ?_
    refine At.ret1 (.inl rfl) rfl rfl rfl (fun w hw => ?_)
    rw [he, drop_consA ha, actsE_dead hdb]
    exact ⟨_, _, rfl, hsim1, hw⟩
  ·skip
   try simp only [hasB, isSizeB, Bool.not_eq_true', Bool.not_eq_false', bne_iff_ne, ne_eq, bne_eq_false_iff_eq, beq_iff_eq, beq_eq_false_iff_ne, decide_eq_true_eq, decide_eq_false_iff_not, gt_iff_lt, ge_iff_le] at h10
   have hn1 := h10
   refine tR ?_
   refine At.val (Val.bin rfl rfl rfl) rfl rfl rfl ?_
   refine tA rfl rfl ?_
   refine tE ?_
   refine At.cond rfl (fun h30 => ?_) (fun h30 => ?_)
   ·skip
    try simp only [hasB, isSizeB, Bool.not_eq_true', Bool.not_eq_false', bne_iff_ne, ne_eq, bne_eq_false_iff_eq, beq_iff_eq, beq_eq_false_iff_ne, decide_eq_true_eq, decide_eq_false_iff_not, gt_iff_lt, ge_iff_le] at h30
    obtain ⟨K, hae⟩ := ac_fl h30
    have hK : 8 * K < σ.ws.length := by rw [hae] at hak; exact hak
    refine At.region ?_
    refine tM rfl rfl ?_
    refine tM rfl rfl ?_
    refine tM rfl rfl ?_
    refine At.idxN hv Tryz.underlying77 Tryz.sizeOf125 rfl rfl (by omega) (by omega) rfl rfl (fun b31 o32 q33 hq34 hc35 hd36 he37 hO38 => ?_)
    obtain rfl : (acN a) = q33 := Option.some.inj (hq.symm.trans (by have := hq34; rwa [Int.toNat_natCast] at this))
    refine At.val (Val.field (o32 + 1) rfl fo_125_1 rfl) rfl rfl rfl ?_
    refine At.val (Val.loadOld Tryz.isAgg3 rfl hd36 (hO38 _ ho)) rfl rfl rfl ?_
    subst hae
    cases hdb : deadB σ1
    ·skip
     refine At.callRP 0 rfl (fun w hw hr => rflush_s _ _ _ σ1 _ K w hsim1 (by omega) (by show _ ≤ 64 * (K : Int); omega) (by show 64 * (K : Int) < _; omega) (by omega) hdb hr) Tryz.call80 rfl rfl (fun y39 r40 hs41 => ?_)
     simp only [sc0, scS]
     refine tA rfl rfl ?_
     refine At.nil ?_
     refine At.blkN ?_
     refine At.thenN ?_
     refine tR ?_
     refine tM rfl rfl ?_
     refine At.val (Val.bin rfl rfl rfl) rfl rfl rfl ?_
     refine tE ?_
     refine At.condF rfl ?_
     refine At.skipC ?_
     refine At.blkN ?_
     refine At.thenN ?_
     refine At.region ?_
     refine tM rfl rfl ?_
     first | refine At.val (Val.addI rfl rfl (by omega) (by omega)) rfl rfl rfl ?_ | refine At.val (Val.bin rfl rfl rfl) rfl rfl rfl ?_
     refine tA rfl rfl ?_
     refine tE ?_
     exact At.again ((k + 1, stepA σ1 (.fl K)), (y39, r40)) (by obtain ⟨s1, s2, s3⟩ := stepA_rest (σ := σ1) (a := (.fl K)) (by rw [hl1]; exact hak); exact ⟨(show k + 1 ≤ L.length by omega), (by dsimp only; rw [he, drop_consA ha, actsE_live hdb]), hs41, s3.trans hl1, (by dsimp only; omega)⟩) (by dsimp only; omega) (Sub.cons rfl (Sub.cons rfl (Sub.cons (congrArg (fun z => some (Value.int IntKind.i64 z)) (by dsimp only; omega)) Sub.nil))) (List.Perm.refl _)
    ·skip
     refine At.callK 0 rfl (fun w hw hr => rflush_0 _ _ _ _ w (by show 0 ≤ 64 * (K : Int); omega) (by show 64 * (K : Int) < _; have := hsim1.len; omega) (hsim1.isdead hdb) hr) Tryz.call80 rfl rfl ?_
     refine tA rfl rfl ?_
     refine At.nil ?_
     refine At.blkN ?_
     refine At.thenN ?_
     refine tR ?_
     refine tM rfl rfl ?_
     refine At.val (Val.bin rfl rfl rfl) rfl rfl rfl ?_
     refine tE ?_
     refine At.condT rfl ?_
     refine tR ?_
     refine tM rfl rfl ?_
     refine tA rfl rfl ?_
     refine tE ?_
     refine At.retC ?_
     refine At.blkR ?_
     refine At.thenR ?_
     refine At.thenR ?_
     refine At.blkR ?_
     refine At.thenR ?_
     refine At.ret1 (.inl rfl) rfl rfl rfl (fun w hw => ?_)
     rw [he, drop_consA ha, actsE_dead hdb]
     exact ⟨_, _, rfl, hsim1, hw⟩
   ·skip
    try simp only [hasB, isSizeB, Bool.not_eq_true', Bool.not_eq_false', bne_iff_ne, ne_eq, bne_eq_false_iff_eq, beq_iff_eq, beq_eq_false_iff_ne, decide_eq_true_eq, decide_eq_false_iff_not, gt_iff_lt, ge_iff_le] at h30
    have hae := ac_fe hn1 h30
    refine At.region ?_
    refine tM rfl rfl ?_
    subst hae
    cases hdb : deadB σ1
    ·skip
     refine At.callRP 0 rfl (fun w hw hr => rfence_s _ _ _ σ1 w hsim1 (by omega) hdb hr) Tryz.call32 rfl rfl (fun y42 r43 hs44 => ?_)
     simp only [sc0, scS]
     refine tA rfl rfl ?_
     refine At.nil ?_
     refine At.blkN ?_
     refine At.thenN ?_
     refine tR ?_
     refine tM rfl rfl ?_
     refine At.val (Val.bin rfl rfl rfl) rfl rfl rfl ?_
     refine tE ?_
     refine At.condF rfl ?_
     refine At.skipC ?_
     refine At.blkN ?_
     refine At.thenN ?_
     refine At.region ?_
     refine tM rfl rfl ?_
     first | refine At.val (Val.addI rfl rfl (by omega) (by omega)) rfl rfl rfl ?_ | refine At.val (Val.bin rfl rfl rfl) rfl rfl rfl ?_
     refine tA rfl rfl ?_
     refine tE ?_
     exact At.again ((k + 1, stepA σ1 .fe), (y42, r43)) (by obtain ⟨s1, s2, s3⟩ := stepA_rest (σ := σ1) (a := .fe) (by rw [hl1]; exact hak); exact ⟨(show k + 1 ≤ L.length by omega), (by dsimp only; rw [he, drop_consA ha, actsE_live hdb]), hs44, s3.trans hl1, (by dsimp only; omega)⟩) (by dsimp only; omega) (Sub.cons rfl (Sub.cons rfl (Sub.cons (congrArg (fun z => some (Value.int IntKind.i64 z)) (by dsimp only; omega)) Sub.nil))) (List.Perm.refl _)
    ·skip
     refine At.callK 0 rfl (fun w hw hr => rfence_0 _ _ _ w (hsim1.isdead hdb) hr) Tryz.call32 rfl rfl ?_
     refine tA rfl rfl ?_
     refine At.nil ?_
     refine At.blkN ?_
     refine At.thenN ?_
     refine tR ?_
     refine tM rfl rfl ?_
     refine At.val (Val.bin rfl rfl rfl) rfl rfl rfl ?_
     refine tE ?_
     refine At.condT rfl ?_
     refine tR ?_
     refine tM rfl rfl ?_
     refine tA rfl rfl ?_
     refine tE ?_
     refine At.retC ?_
     refine At.blkR ?_
     refine At.thenR ?_
     refine At.thenR ?_
     refine At.blkR ?_
     refine At.thenR ?_
     refine At.ret1 (.inl rfl) rfl rfl rfl (fun w hw => ?_)
     rw [he, drop_consA ha, actsE_dead hdb]
     exact ⟨_, _, rfl, hsim1, hw⟩
 ·skip
  try simp only [hasB, isSizeB, Bool.not_eq_true', Bool.not_eq_false', bne_iff_ne, ne_eq, bne_eq_false_iff_eq, beq_iff_eq, beq_eq_false_iff_ne, decide_eq_true_eq, decide_eq_false_iff_not, gt_iff_lt, ge_iff_le] at h1
  refine At.exitC ?_
  refine At.thenX ?_
  refine At.thenX ?_
  refine At.blkX ?_
  refine At.thenN ?_
  refine tR ?_
  refine tA rfl rfl ?_
  refine tE ?_
  refine At.retC ?_
  refine At.ret1 (.inl rfl) rfl rfl rfl (fun w hw => ?_)
  rw [he, List.drop_of_length_le (by omega)]
  exact ⟨_, _, rfl, hsim1, hw⟩
end Go.Proofs.YthhkbbodhghmcaaGreatDoor
set_option linter.unusedVariables false
set_option linter.unusedSimpArgs false
namespace Go.Proofs.YthhkbbodhghmcaaGreatDoor
open Go Go.Wk
theorem eq_span (a b : Int × Int) : ((a.1 == b.1) && ((a.2 == b.2) && true)) = decide (a = b) := by
  have h := ne_span a b
  rw [Bool.eq_iff_iff] at h ⊢
  simp only [Bool.not_eq_true', decide_eq_true_eq] at h ⊢
  cases hx : ((a.1 == b.1) && ((a.2 == b.2) && true)) with
  | true => rw [hx] at h; simp at h; simp [h]
  | false => rw [hx] at h; simp at h; simp [h]
theorem record13_n (v : Value) (l : List UInt8) (w : World) (hv : RdB w v l) (h0 : 2048 ≤ l.length) (hlen : l.length ≤ 140737488355328) :
    NewRowT Tryz.prog 72 [v] (fun v => .tuple #[.agg #[b32 (oT (area l)), v], .int .i64 (oE (area l))]) 100 2 (oL (area l)).length (prS (oL (area l))) w := by
 refine enter0 Tryz.func72 rfl Tryz.ntmps72 rfl ?_
 have hal := area_length h0
 simp only [envOf]
 refine tR ?_
 refine At.alloc Tryz.zeroValue90 rfl rfl (fun b1 => ?_)
 refine tA rfl rfl ?_
 refine tE ?_
 refine At.seq ?_
 refine tR ?_
 refine tM rfl rfl ?_
 refine At.val (Val.lenRd hv Tryz.underlying59 rfl) rfl rfl rfl ?_
 refine At.val (Val.bin rfl rfl rfl) rfl rfl rfl ?_
 refine tE ?_
 refine At.cond rfl (fun h2 => ?_) (fun h2 => ?_)
 ·skip
  try simp only [hasB, isSizeB, Bool.not_eq_true', Bool.not_eq_false', bne_iff_ne, ne_eq, bne_eq_false_iff_eq, beq_iff_eq, beq_eq_false_iff_ne, decide_eq_true_eq, decide_eq_false_iff_not, gt_iff_lt, ge_iff_le] at h2
  omega
 ·skip
  try simp only [hasB, isSizeB, Bool.not_eq_true', Bool.not_eq_false', bne_iff_ne, ne_eq, bne_eq_false_iff_eq, beq_iff_eq, beq_eq_false_iff_ne, decide_eq_true_eq, decide_eq_false_iff_not, gt_iff_lt, ge_iff_le] at h2
  refine At.skipC ?_
  refine At.thenN ?_
  refine tR ?_
  refine tM rfl rfl ?_
  refine At.cutB (1024) (2048) hv Tryz.underlying59 Tryz.sizeOf5 rfl ⟨_, _, rfl, by omega, by omega⟩ ⟨_, _, rfl, by omega, by omega⟩ (by omega) (by omega) rfl rfl (fun v3 hv4 => ?_)
  refine At.callNT (g := (fun v => .tuple #[.agg #[b32 (oT (area l)), v], .int .i64 (oE (area l))])) (fun w hw => openSvR_n _ (area l) w (hv4.mod hw.mod) (by omega)) Tryz.call104 rfl rfl (fun v5 => ?_)
  refine At.val (Val.extract rfl rfl) rfl rfl rfl ?_
  refine At.val (Val.extract rfl rfl) rfl rfl rfl ?_
  refine At.rowOne (i := 0) rfl (fun ho6 => ?_)
  refine At.storeAll (i := 1) Tryz.sizeOf90 rfl rfl rfl (by intro u hu; simp only [List.mem_cons, List.not_mem_nil, or_false] at hu; rcases hu with rfl | rfl <;> first | rfl | assumption) rfl rfl ?_
  simp only [sc0, scS]
  refine tA rfl rfl ?_
  refine tE ?_
  refine At.retC ?_
  refine At.ret2 (.inl rfl) rfl rfl (ResOf.all (i := 1) Tryz.isAgg90 Tryz.sizeOf90 rfl rfl rfl) rfl (fun w hw => ?_)
  exact ⟨_, rfl, (hw.drop (List.singleton_sublist.2 (List.mem_of_getElem? (i := 0) rfl))).f0⟩
theorem next13_p (v : Value) (l : List UInt8) (w : World) (hv : RdB w v l) (h0 : 2048 ≤ l.length) (hlen : l.length ≤ 140737488355328) :
    PureC Tryz.prog 53 [v] (b32 (nextT l)) w := by
 refine enter0 Tryz.func53 rfl Tryz.ntmps53 rfl ?_
 simp only [envOf]
 refine tR ?_
 refine tA rfl rfl ?_
 refine tE ?_
 refine tR ?_
 refine tM rfl rfl ?_
 refine At.callNT (g := (fun v => .tuple #[.agg #[b32 (oT (area l)), v], .int .i64 (oE (area l))])) (fun w hw => record13_n v l w (hv.mod hw.mod) h0 hlen) Tryz.call72 rfl rfl (fun v1 => ?_)
 refine tM rfl rfl ?_
 refine At.val (Val.extract rfl rfl) rfl rfl rfl ?_
 refine At.val (Val.extract rfl rfl) rfl rfl rfl ?_
 refine At.alloc Tryz.zeroValue90 rfl rfl (fun b2 => ?_)
 refine At.rowOne (i := 1) rfl (fun ho3 => ?_)
 refine At.storeAll (i := 0) Tryz.sizeOf90 rfl rfl rfl (by intro u hu; simp only [List.mem_cons, List.not_mem_nil, or_false] at hu; rcases hu with rfl | rfl <;> first | rfl | assumption) rfl rfl ?_
 simp only [sc0, scS]
 refine tA rfl rfl ?_
 refine tE ?_
 refine At.seq ?_
 refine tR ?_
 refine tM rfl rfl ?_
 refine At.val (Val.bin rfl rfl rfl) rfl rfl rfl ?_
 refine At.weaken [(0, _), (2, _), (6, _), (7, _), (5, _), (8, _), (9, _), (3, _), (11, _)] (Sub.cons rfl (Sub.cons rfl (Sub.cons rfl (Sub.cons rfl (Sub.cons rfl (Sub.cons rfl (Sub.cons rfl (Sub.cons rfl (Sub.cons rfl Sub.nil))))))))) ?_
 refine At.boolMeet 5 16 (decide (oE (area l) ≠ 0 ∨ (oT (area l)).toNat = 4294967295)) ?_ ?_
 ·skip
  simp only [List.take_succ_cons, List.take_zero]
  refine tM rfl rfl ?_
  refine At.split (t := 12) rfl (fun h4 => ?_) (fun h4 => ?_)
  ·skip
   try simp only [hasB, isSizeB, Bool.not_eq_true', Bool.not_eq_false', bne_iff_ne, ne_eq, bne_eq_false_iff_eq, beq_iff_eq, beq_eq_false_iff_ne, decide_eq_true_eq, decide_eq_false_iff_not, gt_iff_lt, ge_iff_le] at h4
   refine At.no rfl rfl rfl rfl ?_
   refine At.no rfl rfl rfl rfl ?_
   refine At.no rfl rfl rfl rfl ?_
   refine At.val (Val.pickT rfl rfl) rfl rfl rfl ?_
   refine At.nil ?_
   exact At.boolEnd rfl (by apply Bool.eq_iff_iff.2; (simp only [decide_eq_true_eq, Bool.false_eq_true, false_iff, true_iff, ne_eq, beq_iff_eq, bne_iff_ne]) <;> omega) (by repeat (first | exact Sub.nil | refine Sub.cons rfl ?_))
  ·skip
   try simp only [hasB, isSizeB, Bool.not_eq_true', Bool.not_eq_false', bne_iff_ne, ne_eq, bne_eq_false_iff_eq, beq_iff_eq, beq_eq_false_iff_ne, decide_eq_true_eq, decide_eq_false_iff_not, gt_iff_lt, ge_iff_le] at h4
   refine At.yes rfl rfl ?_
   refine At.val (Val.field 0 rfl fo_90_0 rfl) rfl rfl rfl ?_
   refine At.yes rfl rfl ?_
   refine At.val (Val.load (i := 0) Tryz.isAgg76 rfl rfl rfl) rfl rfl rfl ?_
   refine At.yes rfl rfl ?_
   refine At.val (Val.bin rfl rfl rfl) rfl rfl rfl ?_
   refine At.val (Val.pickF rfl rfl) rfl rfl rfl ?_
   refine At.nil ?_
   exact At.boolEnd rfl (by apply Bool.eq_iff_iff.2; (simp only [decide_eq_true_eq, Bool.false_eq_true, false_iff, true_iff, ne_eq, beq_iff_eq, bne_iff_ne]) <;> omega) (by repeat (first | exact Sub.nil | refine Sub.cons rfl ?_))
 ·skip
  simp only [List.drop_succ_cons, List.drop_zero]
  refine tE ?_
  refine At.cond rfl (fun h5 => ?_) (fun h5 => ?_)
  ·skip
   try simp only [hasB, isSizeB, Bool.not_eq_true', Bool.not_eq_false', bne_iff_ne, ne_eq, bne_eq_false_iff_eq, beq_iff_eq, beq_eq_false_iff_ne, decide_eq_true_eq, decide_eq_false_iff_not, gt_iff_lt, ge_iff_le] at h5
   have hnx : oE (area l) ≠ 0 ∨ (oT (area l)).toNat = 4294967295 := by first | exact h5 | (simp only [ne_eq]; exact h5) | omega
   refine tR ?_
   refine tA rfl rfl ?_
   refine tE ?_
   refine At.retC ?_
   refine At.thenR ?_
   refine At.ret1 (.inl rfl) rfl rfl rfl (fun w hw => ?_)
   exact ⟨by unfold nextT; rw [if_pos hnx]; rfl, hw.mod⟩
  ·skip
   try simp only [hasB, isSizeB, Bool.not_eq_true', Bool.not_eq_false', bne_iff_ne, ne_eq, bne_eq_false_iff_eq, beq_iff_eq, beq_eq_false_iff_ne, decide_eq_true_eq, decide_eq_false_iff_not, gt_iff_lt, ge_iff_le] at h5
   have hnx : ¬ (oE (area l) ≠ 0 ∨ (oT (area l)).toNat = 4294967295) := by first | exact h5 | omega
   refine At.skipC ?_
   refine At.thenN ?_
   refine tR ?_
   refine At.val (Val.field 0 rfl fo_90_0 rfl) rfl rfl rfl ?_
   refine At.val (Val.load (i := 0) Tryz.isAgg76 rfl rfl rfl) rfl rfl rfl ?_
   refine At.val (Val.bin rfl rfl rfl) rfl rfl rfl ?_
   refine tA rfl rfl ?_
   refine tE ?_
   refine At.retC ?_
   refine At.ret1 (.inl rfl) rfl rfl rfl (fun w hw => ?_)
   have h4 := (oT (area l)).isLt
   exact ⟨by unfold nextT; rw [if_neg hnx]; unfold b32; rw [wrap_u32 (by omega) (by omega), BitVec.toNat_add, show (oT (area l)).toNat + (1 : BitVec 32).toNat = (oT (area l)).toNat + 1 from rfl, Nat.mod_eq_of_lt (by omega)]; rfl, hw.mod⟩
theorem rforget_s (p : Nat) (γ : Rg) (ρ : Rs) (σ : Ds) (w : World) (hsim : Sim σ ρ) (hn : 16 < σ.ws.length) (hst : σ.steps + 3 ≤ 1099511627776) (hd : (RDev p γ ρ).holds w) :
    RDevP Tryz.prog 14 [.pointer (some ⟨p, 0, none⟩)] p γ ρ (.int .i64 (actsE σ (cleanA 0)).1) (Sim (actsE σ (cleanA 0)).2) w := by
 refine enterRc hd Tryz.func14 rfl Tryz.ntmps14 rfl ?_
 obtain ⟨hQ, hg⟩ := RDev.facts hd
 have hln := hg.len
 have hps := hg.pos
 have hnw := hg.now
 simp only [envOf]
 refine tR ?_
 refine tA rfl rfl ?_
 refine tE ?_
 refine tR ?_
 refine At.rowNil tAc 3 ?_
 refine At.callR 0 (n := ([] : List Ac).length) (xs := acC ([] : List Ac)) rfl (fun w hw hr => forgot_n _ ([] : List Ac) w hr (by first | omega | (simp only [List.length_append, List.length_cons, List.length_nil]; omega) | decide | simp)) Tryz.call38 rfl rfl (fun v1 => ?_)
 simp only [sc0, scS]
 refine tA rfl rfl ?_
 refine At.nil ?_
 rw [show (([] : List Ac) ++ cleanA 0) = cleanA 0 from rfl]
 refine At.thenN ?_
 refine tR ?_
 refine tM rfl rfl ?_
 refine tM rfl rfl ?_
 refine At.callRP 1 rfl (fun w hw hr => play_s _ _ _ σ _ (cleanA 0) w hsim (arow_rdN (L := (cleanA 0)) (hw.row (i := 0) rfl)) (Rep.offRow (i := 0) (j := 1) hw rfl rfl (by decide)) (cleanA_ok 0 hn) hst hr) Tryz.call39 rfl rfl (fun y2 r3 hs4 => ?_)
 simp only [sc0, scS]
 refine tA rfl rfl ?_
 refine tE ?_
 refine At.retC ?_
 refine At.ret1 (.inl rfl) rfl rfl rfl (fun w hw => ?_)
 exact ⟨_, _, rfl, hs4, hw.drop (List.singleton_sublist.2 (List.mem_of_getElem? (i := 1) rfl))⟩
theorem rsave_s (p : Nat) (γ : Rg) (ρ : Rs) (σ : Ds) (v : Value) (L : List (Int × Int)) (w : World) (hsim : Sim σ ρ) (hv : RdS w v L) (ho : Off v (prS L) (feet [RDev p γ ρ])) (hlen : L.length ≤ 8796093022144) (hst : σ.steps + 160 ≤ 1099511627776) (hd : (RDev p γ ρ).holds w) :
    RDevP Tryz.prog 18 [.pointer (some ⟨p, 0, none⟩), v] p γ ρ (.tuple #[.bool (saveE σ L).1, .int .i64 (saveE σ L).2.1]) (Sim (saveE σ L).2.2) w := by
 obtain ⟨A, c, rfl⟩ : ∃ A c, v = .slice A L.length c := by obtain ⟨A, c, h, _⟩ := hv; exact ⟨A, c, h⟩
 refine enterRc hd Tryz.func18 rfl Tryz.ntmps18 rfl ?_
 obtain ⟨hQ, hg⟩ := RDev.facts hd
 have hln := hg.len
 have hps := hg.pos
 have hnw := hg.now
 have hsl := hsim.len
 have hvl := viewWs_len σ.ws
 obtain ⟨T, hT⟩ : ∃ T, T = stampD σ := ⟨_, rfl⟩
 have hT0 : T.toNat ≠ 0 := by rw [hT]; exact nextT_0 _
 simp only [envOf]
 refine tR ?_
 refine tA rfl rfl ?_
 refine tA rfl rfl ?_
 refine tE ?_
 refine tR ?_
 refine tM rfl rfl ?_
 refine At.callP (fun w hw => goodR13_p _ L w (hv.keep hw ho) hlen) Tryz.call52 rfl rfl ?_
 refine tA rfl rfl ?_
 refine tE ?_
 refine At.seq ?_
 refine tR ?_
 refine tM rfl rfl ?_
 refine At.val (Val.not rfl) rfl rfl rfl ?_
 refine tE ?_
 refine At.cond rfl (fun h1 => ?_) (fun h1 => ?_)
 ·skip
  try simp only [hasB, isSizeB, Bool.not_eq_true', Bool.not_eq_false', bne_iff_ne, ne_eq, bne_eq_false_iff_eq, beq_iff_eq, beq_eq_false_iff_ne, decide_eq_true_eq, decide_eq_false_iff_not, gt_iff_lt, ge_iff_le] at h1
  have hsp : ¬ SpK L L.length := h1
  refine tR ?_
  refine tA rfl rfl ?_
  refine tA rfl rfl ?_
  refine tE ?_
  refine At.retC ?_
  refine At.thenR ?_
  refine At.ret2 (.inl rfl) rfl rfl rfl rfl (fun w hw => ?_)
  have e : saveE σ L = (false, 36, σ) := by
    unfold saveE
    rw [if_pos hsp]
  rw [e]
  exact ⟨_, _, rfl, hsim, hw.drop (List.singleton_sublist.2 (List.mem_of_getElem? (i := 0) rfl))⟩
 ·skip
  try simp only [hasB, isSizeB, Bool.not_eq_true', Bool.not_eq_false', bne_iff_ne, ne_eq, bne_eq_false_iff_eq, beq_iff_eq, beq_eq_false_iff_ne, decide_eq_true_eq, decide_eq_false_iff_not, gt_iff_lt, ge_iff_le] at h1
  have hsp : SpK L L.length := h1
  refine At.skipC ?_
  refine At.thenN ?_
  refine At.seq ?_
  refine tR ?_
  refine tM rfl rfl ?_
  refine At.callK 0 rfl (fun w hw hr => rsize_k _ _ _ w hr) Tryz.call31 rfl rfl ?_
  refine At.val (Val.bin rfl rfl rfl) rfl rfl rfl ?_
  refine tE ?_
  refine At.cond rfl (fun h2 => ?_) (fun h2 => ?_)
  ·skip
   try simp only [hasB, isSizeB, Bool.not_eq_true', Bool.not_eq_false', bne_iff_ne, ne_eq, bne_eq_false_iff_eq, beq_iff_eq, beq_eq_false_iff_ne, decide_eq_true_eq, decide_eq_false_iff_not, gt_iff_lt, ge_iff_le] at h2
   refine tR ?_
   refine tA rfl rfl ?_
   refine tA rfl rfl ?_
   refine tE ?_
   refine At.retC ?_
   refine At.thenR ?_
   refine At.ret2 (.inl rfl) rfl rfl rfl rfl (fun w hw => ?_)
   have e : saveE σ L = (false, 11, σ) := by
     unfold saveE
     rw [if_neg (Classical.not_not.2 hsp), if_pos (by omega)]
   rw [e]
   exact ⟨_, _, rfl, hsim, hw.drop (List.singleton_sublist.2 (List.mem_of_getElem? (i := 0) rfl))⟩
  ·skip
   try simp only [hasB, isSizeB, Bool.not_eq_true', Bool.not_eq_false', bne_iff_ne, ne_eq, bne_eq_false_iff_eq, beq_iff_eq, beq_eq_false_iff_ne, decide_eq_true_eq, decide_eq_false_iff_not, gt_iff_lt, ge_iff_le] at h2
   refine At.skipC ?_
   refine At.thenN ?_
   refine At.seq ?_
   refine tR ?_
   refine tM rfl rfl ?_
   refine At.val (Val.lenRd hv Tryz.underlying35 rfl) rfl rfl rfl ?_
   refine At.val (Val.bin rfl rfl rfl) rfl rfl rfl ?_
   refine tE ?_
   refine At.cond rfl (fun h3 => ?_) (fun h3 => ?_)
   ·skip
    try simp only [hasB, isSizeB, Bool.not_eq_true', Bool.not_eq_false', bne_iff_ne, ne_eq, bne_eq_false_iff_eq, beq_iff_eq, beq_eq_false_iff_ne, decide_eq_true_eq, decide_eq_false_iff_not, gt_iff_lt, ge_iff_le] at h3
    refine tR ?_
    refine tA rfl rfl ?_
    refine tA rfl rfl ?_
    refine tE ?_
    refine At.retC ?_
    refine At.thenR ?_
    refine At.ret2 (.inl rfl) rfl rfl rfl rfl (fun w hw => ?_)
    have e : saveE σ L = (false, 0, σ) := by
      unfold saveE
      rw [if_neg (Classical.not_not.2 hsp), if_neg (by omega), if_pos (by omega)]
    rw [e]
    exact ⟨_, _, rfl, hsim, hw.drop (List.singleton_sublist.2 (List.mem_of_getElem? (i := 0) rfl))⟩
   ·skip
    try simp only [hasB, isSizeB, Bool.not_eq_true', Bool.not_eq_false', bne_iff_ne, ne_eq, bne_eq_false_iff_eq, beq_iff_eq, beq_eq_false_iff_ne, decide_eq_true_eq, decide_eq_false_iff_not, gt_iff_lt, ge_iff_le] at h3
    have hg : GoodSv T L := ⟨hT0, by omega, hsp⟩
    obtain ⟨hb1, hb2⟩ := svB_le (t := T) (L := L) (by omega)
    obtain ⟨wd, hwd⟩ : ∃ wd, σ.ws[16]? = some wd := ⟨_, List.getElem?_eq_getElem (by omega)⟩
    obtain ⟨m, hm⟩ : ∃ m, m = (svB T L).length / 8 := ⟨_, rfl⟩
    have hbl : (svB T L).length = 8 * m := by omega
    refine At.skipC ?_
    refine At.thenN ?_
    refine tR ?_
    refine tM rfl rfl ?_
    refine At.callRK 0 rfl (fun w hw hr => rview_s _ _ _ σ w hsim (by omega) hr) Tryz.call20 rfl rfl (fun v4 => ?_)
    refine At.callP (fun w hw => (by have h0 := next13_p _ (wbytes (viewWs σ.ws)) w (row_rd (hw.row (i := 0) rfl) (by decide)) (by rw [wbytes_length, hvl]; omega) (by rw [wbytes_length, hvl]; omega); rw [show nextT (wbytes (viewWs σ.ws)) = T from hT.symm] at h0; exact h0)) Tryz.call53 rfl rfl ?_
    refine tA rfl rfl ?_
    refine At.nil ?_
    refine At.drop 0 ?_
    simp only [ec0, ecS]
    refine At.thenN ?_
    refine tR ?_
    refine tM rfl rfl ?_
    refine tM rfl rfl ?_
    refine At.val (Val.build (fun a ha => by simp only [List.map_toArray, List.map_cons, List.map_nil, ha.eval (x := (.tmp 31)) rfl, ha.eval (x := (.tmp 32)) rfl] <;> rfl) (bld_90_0_1 _ _ _ _ )) rfl rfl rfl ?_
    refine At.callNT (g := (fun v => .tuple #[v, .int .i64 0])) (fun w hw => (by have h0 := packSvR_n T _ L w (hv.keep hw ho) hlen; rw [svE_T hg, svP_T hg] at h0; exact h0)) Tryz.call54 rfl rfl (fun v5 => ?_)
    refine tM rfl rfl ?_
    refine At.val (Val.extract rfl rfl) rfl rfl rfl ?_
    refine At.val (Val.extract rfl rfl) rfl rfl rfl ?_
    refine tA rfl rfl ?_
    refine tA rfl rfl ?_
    refine tE ?_
    refine tR ?_
    refine tA rfl rfl ?_
    refine tE ?_
    refine tR ?_
    refine tM rfl rfl ?_
    by_cases hwz : nowW wd = 0
    ·skip
     have hF : saveF σ = [] := by unfold saveF; rw [nowAt_some hwd, if_pos hwz]
     refine At.callK 1 rfl (fun w hw hr => (by have h0 := rWord_s _ _ _ σ 16 wd w hsim hwd hr; rw [hwz] at h0; exact h0)) Tryz.call55 rfl rfl ?_
     refine tM rfl rfl ?_
     refine At.val (Val.extract rfl rfl) rfl rfl rfl ?_
     refine At.val (Val.extract rfl rfl) rfl rfl rfl ?_
     refine tA rfl rfl ?_
     refine tA rfl rfl ?_
     refine tE ?_
     refine At.seq ?_
     refine tR ?_
     refine tM rfl rfl ?_
     refine At.val (Val.bin rfl rfl rfl) rfl rfl rfl ?_
     refine tE ?_
     refine At.condF rfl ?_
     refine At.skipC ?_
     refine At.thenN ?_
     refine At.seq ?_
     refine At.seq ?_
     refine At.rowNil tAc 3 ?_
     refine At.rew (H' := arow (.slice none 0 0) [] :: _) rfl ?_
     refine At.region ?_
     refine tA rfl rfl ?_
     refine tE ?_
     refine At.block ?_
     skip
     refine At.loop (σ := Nat × Value) (fun s => s.1 ≤ m) (fun s => [(0, .pointer (some ⟨p, 0, none⟩)), (7, b32 T), (8, v5), (10, s.2), (13, .int .i64 (8 * (s.1 : Int)))]) (fun s => [arow s.2 (([] : List Ac) ++ stA 128 ((wordsL (svB T L) m).take s.1)), rowR v5 5 1 ((svB T L).length) ((svB T L).map bv), RDev p γ (ρ)]) (fun s => m - s.1) (0, (.slice none 0 0)) (Nat.zero_le _) (Sub.cons rfl (Sub.cons rfl (Sub.cons rfl (Sub.cons rfl (Sub.cons rfl Sub.nil))))) (by dsimp only; rw [List.take_zero, show stA 128 [] = [] from rfl, List.append_nil]) ?_
     intro s hs
     obtain ⟨j, vk⟩ := s
     dsimp only at hs ⊢
     refine At.seq ?_
     refine tR ?_
     refine tM rfl rfl ?_
     refine tM rfl rfl ?_
     refine At.val (Val.lenRow (i := 1) Tryz.underlying59 rfl rfl) rfl rfl rfl ?_
     refine At.val (Val.bin rfl rfl rfl) rfl rfl rfl ?_
     refine tE ?_
     refine At.cond rfl (fun h6 => ?_) (fun h6 => ?_)
     ·skip
      try simp only [hasB, isSizeB, Bool.not_eq_true', Bool.not_eq_false', bne_iff_ne, ne_eq, bne_eq_false_iff_eq, beq_iff_eq, beq_eq_false_iff_ne, decide_eq_true_eq, decide_eq_false_iff_not, gt_iff_lt, ge_iff_le] at h6
      have hjm : j < m := by omega
      refine At.skipC ?_
      refine At.thenN ?_
      refine At.seq ?_
      refine At.block ?_
      refine tR ?_
      refine tM rfl rfl ?_
      refine tM rfl rfl ?_
      refine At.callP (fun w hw => (by have h0 := wordS_p _ (svB T L) (8 * j) w (row_rd (hw.row (i := 1) rfl) (by decide)) (by omega) (by omega); rw [show ((8 * j : Nat) : Int) = 8 * (j : Int) from by omega, wdA_val] at h0; exact h0)) Tryz.call56 rfl rfl ?_
      refine tM rfl rfl ?_
      refine At.val (Val.extract rfl rfl) rfl rfl rfl ?_
      refine At.val (Val.extract rfl rfl) rfl rfl rfl ?_
      refine tA rfl rfl ?_
      refine tA rfl rfl ?_
      refine tE ?_
      refine At.region ?_
      refine tM rfl rfl ?_
      refine tM rfl rfl ?_
      first | refine At.val (Val.addI rfl rfl (by omega) (by omega)) rfl rfl rfl ?_ | refine At.val (Val.bin rfl rfl rfl) rfl rfl rfl ?_
      refine tM rfl rfl ?_
      refine At.callR 0 (n := (([] : List Ac) ++ stA 128 ((wordsL (svB T L) m).take j)).length) (xs := acC (([] : List Ac) ++ stA 128 ((wordsL (svB T L) m).take j))) rfl (fun w hw hr => (by have h0 := ast_n _ (([] : List Ac) ++ stA 128 ((wordsL (svB T L) m).take j)) (128 + j) (wdA (svB T L) (8 * j)) w hr (by rw [List.length_append, stA_len, List.length_take]; have := hbl; simp only [List.length_nil, show (cleanA 0).length = 3 from rfl]; omega); rw [show 8 * ((128 + j : Nat) : Int) = 1024 + 8 * (j : Int) from by omega] at h0; exact h0)) Tryz.call57 rfl rfl (fun v7 => ?_)
      simp only [sc0, scS]
      refine tA rfl rfl ?_
      refine At.nil ?_
      refine At.blkN ?_
      refine At.thenN ?_
      refine At.region ?_
      refine tM rfl rfl ?_
      first | refine At.val (Val.addI rfl rfl (by omega) (by omega)) rfl rfl rfl ?_ | refine At.val (Val.bin rfl rfl rfl) rfl rfl rfl ?_
      refine tA rfl rfl ?_
      refine tE ?_
      exact At.again (j + 1, v7) (show j + 1 ≤ m by omega) (by dsimp only; omega) (Sub.cons rfl (Sub.cons rfl (Sub.cons rfl (Sub.cons rfl (Sub.cons (congrArg (fun z => some (Value.int IntKind.i64 z)) (by dsimp only; omega)) Sub.nil))))) (by dsimp only; rw [List.take_succ_of_get (wordsL_at (l := svB T L) hjm), stA_snoc, ← List.append_assoc, List.length_take, wordsL_length, Nat.min_eq_left (Nat.le_of_lt hjm)])
     ·skip
      try simp only [hasB, isSizeB, Bool.not_eq_true', Bool.not_eq_false', bne_iff_ne, ne_eq, bne_eq_false_iff_eq, beq_iff_eq, beq_eq_false_iff_ne, decide_eq_true_eq, decide_eq_false_iff_not, gt_iff_lt, ge_iff_le] at h6
      refine At.exitC ?_
      refine At.thenX ?_
      refine At.thenX ?_
      refine At.blkX ?_
      refine At.thenN ?_
      refine At.seq ?_
      rw [List.take_of_length_le (by rw [wordsL_length]; omega)]
      refine At.region ?_
      refine tM rfl rfl ?_
      refine tM rfl rfl ?_
      refine At.val (Val.lenRow (i := 1) Tryz.underlying59 rfl rfl) rfl rfl rfl ?_
      refine At.callR 0 (n := (([] : List Ac) ++ stA 128 (wordsL (svB T L) m)).length) (xs := acC (([] : List Ac) ++ stA 128 (wordsL (svB T L) m))) rfl (fun w hw hr => (by have h0 := flushes_n _ (([] : List Ac) ++ stA 128 (wordsL (svB T L) m)) 1024 (svB T L).length (cntL 1024 (svB T L).length) w hr (by simp only [List.length_append, stA_len, flA_len, wordsL_length, List.length_cons, List.length_nil, show (cleanA 0).length = 3 from rfl]; have := cntR_le (svB T L) hb1; omega) (by decide) (by omega) (cntL_P _ _); rw [show 1024 / 64 = 16 from rfl] at h0; exact h0)) Tryz.call58 rfl rfl (fun v8 => ?_)
      simp only [sc0, scS]
      refine tA rfl rfl ?_
      refine tE ?_
      refine tR ?_
      refine tM rfl rfl ?_
      refine At.callR 0 (n := ((([] : List Ac) ++ stA 128 (wordsL (svB T L) m)) ++ flA 16 (cntL 1024 (svB T L).length)).length) (xs := acC ((([] : List Ac) ++ stA 128 (wordsL (svB T L) m)) ++ flA 16 (cntL 1024 (svB T L).length))) rfl (fun w hw hr => afe_n _ ((([] : List Ac) ++ stA 128 (wordsL (svB T L) m)) ++ flA 16 (cntL 1024 (svB T L).length)) w hr (by simp only [List.length_append, stA_len, flA_len, wordsL_length, List.length_cons, List.length_nil, show (cleanA 0).length = 3 from rfl]; have := cntR_le (svB T L) hb1; omega)) Tryz.call59 rfl rfl (fun v9 => ?_)
      simp only [sc0, scS]
      refine tA rfl rfl ?_
      refine tE ?_
      refine tR ?_
      refine tM rfl rfl ?_
      refine tM rfl rfl ?_
      refine At.callP (fun w hw => sealR_p 128 T w) Tryz.call60 rfl rfl ?_
      refine At.callR 0 (n := (((([] : List Ac) ++ stA 128 (wordsL (svB T L) m)) ++ flA 16 (cntL 1024 (svB T L).length)) ++ [Ac.fe]).length) (xs := acC (((([] : List Ac) ++ stA 128 (wordsL (svB T L) m)) ++ flA 16 (cntL 1024 (svB T L).length)) ++ [Ac.fe])) rfl (fun w hw hr => ast_n _ (((([] : List Ac) ++ stA 128 (wordsL (svB T L) m)) ++ flA 16 (cntL 1024 (svB T L).length)) ++ [Ac.fe]) 16 (sealW (BitVec.ofInt 64 128) T) w hr (by simp only [List.length_append, stA_len, flA_len, wordsL_length, List.length_cons, List.length_nil, show (cleanA 0).length = 3 from rfl]; have := cntR_le (svB T L) hb1; omega)) Tryz.call57 rfl rfl (fun v10 => ?_)
      simp only [sc0, scS]
      refine tA rfl rfl ?_
      refine tE ?_
      refine tR ?_
      refine tM rfl rfl ?_
      refine At.callR 0 (n := ((((([] : List Ac) ++ stA 128 (wordsL (svB T L) m)) ++ flA 16 (cntL 1024 (svB T L).length)) ++ [Ac.fe]) ++ [Ac.st 16 (sealW (BitVec.ofInt 64 128) T)]).length) (xs := acC ((((([] : List Ac) ++ stA 128 (wordsL (svB T L) m)) ++ flA 16 (cntL 1024 (svB T L).length)) ++ [Ac.fe]) ++ [Ac.st 16 (sealW (BitVec.ofInt 64 128) T)])) rfl (fun w hw hr => afl_n _ ((((([] : List Ac) ++ stA 128 (wordsL (svB T L) m)) ++ flA 16 (cntL 1024 (svB T L).length)) ++ [Ac.fe]) ++ [Ac.st 16 (sealW (BitVec.ofInt 64 128) T)]) 2 w hr (by simp only [List.length_append, stA_len, flA_len, wordsL_length, List.length_cons, List.length_nil, show (cleanA 0).length = 3 from rfl]; have := cntR_le (svB T L) hb1; omega)) Tryz.call61 rfl rfl (fun v11 => ?_)
      simp only [sc0, scS]
      refine tA rfl rfl ?_
      refine tE ?_
      refine tR ?_
      refine tM rfl rfl ?_
      refine At.callR 0 (n := (((((([] : List Ac) ++ stA 128 (wordsL (svB T L) m)) ++ flA 16 (cntL 1024 (svB T L).length)) ++ [Ac.fe]) ++ [Ac.st 16 (sealW (BitVec.ofInt 64 128) T)]) ++ [Ac.fl 2]).length) (xs := acC (((((([] : List Ac) ++ stA 128 (wordsL (svB T L) m)) ++ flA 16 (cntL 1024 (svB T L).length)) ++ [Ac.fe]) ++ [Ac.st 16 (sealW (BitVec.ofInt 64 128) T)]) ++ [Ac.fl 2])) rfl (fun w hw hr => afe_n _ (((((([] : List Ac) ++ stA 128 (wordsL (svB T L) m)) ++ flA 16 (cntL 1024 (svB T L).length)) ++ [Ac.fe]) ++ [Ac.st 16 (sealW (BitVec.ofInt 64 128) T)]) ++ [Ac.fl 2]) w hr (by simp only [List.length_append, stA_len, flA_len, wordsL_length, List.length_cons, List.length_nil, show (cleanA 0).length = 3 from rfl]; have := cntR_le (svB T L) hb1; omega)) Tryz.call59 rfl rfl (fun v12 => ?_)
      simp only [sc0, scS]
      refine tA rfl rfl ?_
      refine tE ?_
      refine At.seq ?_
      rw [show ((((((([] : List Ac) ++ stA 128 (wordsL (svB T L) m)) ++ flA 16 (cntL 1024 (svB T L).length)) ++ [Ac.fe]) ++ [Ac.st 16 (sealW (BitVec.ofInt 64 128) T)]) ++ [Ac.fl 2]) ++ [Ac.fe]) = saveA σ L from by unfold saveA recA recS recF cleanA; rw [hF, ← hT, ← hm]; simp only [cleanA, List.append_assoc, List.nil_append, List.cons_append]]
      refine At.region ?_
      refine tM rfl rfl ?_
      refine tM rfl rfl ?_
      refine At.callRP 2 rfl (fun w hw hr => play_s _ _ _ σ _ (saveA σ L) w hsim (arow_rdN (L := (saveA σ L)) (hw.row (i := 0) rfl)) (Rep.offRow (i := 0) (j := 2) hw rfl rfl (by decide)) (saveA_ok (by omega) (by rw [← hT]; exact hb1)) (by have := saveA_len (σ := σ) (L := L) (by rw [← hT]; exact hb1); omega) hr) Tryz.call39 rfl rfl (fun y13 r14 hs15 => ?_)
      simp only [sc0, scS]
      refine tA rfl rfl ?_
      refine tE ?_
      refine tR ?_
      refine tM rfl rfl ?_
      refine At.val (Val.bin rfl rfl rfl) rfl rfl rfl ?_
      refine tM rfl rfl ?_
      refine tA rfl rfl ?_
      refine tA rfl rfl ?_
      refine tE ?_
      refine At.retC ?_
      refine At.ret2 (.inl rfl) rfl rfl rfl rfl (fun w hw => ?_)
      have e : saveE σ L = (decide ((actsE σ (saveA σ L)).1 = 0), (actsE σ (saveA σ L)).1, (actsE σ (saveA σ L)).2) := by
        unfold saveE
        rw [if_neg (Classical.not_not.2 hsp), if_neg (by omega), if_neg (by omega)]
      rw [e]
      exact ⟨_, _, rfl, hs15, hw.drop (List.singleton_sublist.2 (List.mem_of_getElem? (i := 2) rfl))⟩
    ·skip
     have hF : saveF σ = cleanA 0 := by unfold saveF; rw [nowAt_some hwd, if_neg hwz]
     refine At.callK 1 rfl (fun w hw hr => rWord_s _ _ _ σ 16 wd w hsim hwd hr) Tryz.call55 rfl rfl ?_
     refine tM rfl rfl ?_
     refine At.val (Val.extract rfl rfl) rfl rfl rfl ?_
     refine At.val (Val.extract rfl rfl) rfl rfl rfl ?_
     refine tA rfl rfl ?_
     refine tA rfl rfl ?_
     refine tE ?_
     refine At.seq ?_
     refine tR ?_
     refine tM rfl rfl ?_
     refine At.val (Val.bin rfl rfl rfl) rfl rfl rfl ?_
     rw [show (((nowW wd).toNat : Int) != 0) = true from by rw [bne_iff_ne]; intro h9; exact hwz (BitVec.eq_of_toNat_eq (by show (nowW wd).toNat = 0; omega))]
     refine tE ?_
     refine At.condT rfl ?_
     refine At.region ?_
     refine tM rfl rfl ?_
     refine At.rowNil tAc 3 ?_
     refine At.callR 0 (n := ([] : List Ac).length) (xs := acC ([] : List Ac)) rfl (fun w hw hr => forgot_n _ ([] : List Ac) w hr (by first | omega | (simp only [List.length_append, List.length_cons, List.length_nil]; omega) | decide | simp)) Tryz.call38 rfl rfl (fun v16 => ?_)
     simp only [sc0, scS]
     refine tA rfl rfl ?_
     refine tE ?_
     refine At.seq ?_
     refine At.seq ?_
     rw [show (([] : List Ac) ++ cleanA 0) = cleanA 0 from rfl]
     refine At.region ?_
     refine tA rfl rfl ?_
     refine tE ?_
     refine At.block ?_
     skip
     refine At.loop (σ := Nat × Value) (fun s => s.1 ≤ m) (fun s => [(0, .pointer (some ⟨p, 0, none⟩)), (7, b32 T), (8, v5), (10, s.2), (13, .int .i64 (8 * (s.1 : Int)))]) (fun s => [arow s.2 ((cleanA 0) ++ stA 128 ((wordsL (svB T L) m).take s.1)), rowR v5 5 1 ((svB T L).length) ((svB T L).map bv), RDev p γ (ρ)]) (fun s => m - s.1) (0, v16) (Nat.zero_le _) (Sub.cons rfl (Sub.cons rfl (Sub.cons rfl (Sub.cons rfl (Sub.cons rfl Sub.nil))))) (by dsimp only; rw [List.take_zero, show stA 128 [] = [] from rfl, List.append_nil]) ?_
     intro s hs
     obtain ⟨j, vk⟩ := s
     dsimp only at hs ⊢
     refine At.seq ?_
     refine tR ?_
     refine tM rfl rfl ?_
     refine tM rfl rfl ?_
     refine At.val (Val.lenRow (i := 1) Tryz.underlying59 rfl rfl) rfl rfl rfl ?_
     refine At.val (Val.bin rfl rfl rfl) rfl rfl rfl ?_
     refine tE ?_
     refine At.cond rfl (fun h17 => ?_) (fun h17 => ?_)
     ·skip
      try simp only [hasB, isSizeB, Bool.not_eq_true', Bool.not_eq_false', bne_iff_ne, ne_eq, bne_eq_false_iff_eq, beq_iff_eq, beq_eq_false_iff_ne, decide_eq_true_eq, decide_eq_false_iff_not, gt_iff_lt, ge_iff_le] at h17
      have hjm : j < m := by omega
      refine At.skipC ?_
      refine At.thenN ?_
      refine At.seq ?_
      refine At.block ?_
      refine tR ?_
      refine tM rfl rfl ?_
      refine tM rfl rfl ?_
      refine At.callP (fun w hw => (by have h0 := wordS_p _ (svB T L) (8 * j) w (row_rd (hw.row (i := 1) rfl) (by decide)) (by omega) (by omega); rw [show ((8 * j : Nat) : Int) = 8 * (j : Int) from by omega, wdA_val] at h0; exact h0)) Tryz.call56 rfl rfl ?_
      refine tM rfl rfl ?_
      refine At.val (Val.extract rfl rfl) rfl rfl rfl ?_
      refine At.val (Val.extract rfl rfl) rfl rfl rfl ?_
      refine tA rfl rfl ?_
      refine tA rfl rfl ?_
      refine tE ?_
      refine At.region ?_
      refine tM rfl rfl ?_
      refine tM rfl rfl ?_
      first | refine At.val (Val.addI rfl rfl (by omega) (by omega)) rfl rfl rfl ?_ | refine At.val (Val.bin rfl rfl rfl) rfl rfl rfl ?_
      refine tM rfl rfl ?_
      refine At.callR 0 (n := ((cleanA 0) ++ stA 128 ((wordsL (svB T L) m).take j)).length) (xs := acC ((cleanA 0) ++ stA 128 ((wordsL (svB T L) m).take j))) rfl (fun w hw hr => (by have h0 := ast_n _ ((cleanA 0) ++ stA 128 ((wordsL (svB T L) m).take j)) (128 + j) (wdA (svB T L) (8 * j)) w hr (by rw [List.length_append, stA_len, List.length_take]; have := hbl; simp only [List.length_nil, show (cleanA 0).length = 3 from rfl]; omega); rw [show 8 * ((128 + j : Nat) : Int) = 1024 + 8 * (j : Int) from by omega] at h0; exact h0)) Tryz.call57 rfl rfl (fun v18 => ?_)
      simp only [sc0, scS]
      refine tA rfl rfl ?_
      refine At.nil ?_
      refine At.blkN ?_
      refine At.thenN ?_
      refine At.region ?_
      refine tM rfl rfl ?_
      first | refine At.val (Val.addI rfl rfl (by omega) (by omega)) rfl rfl rfl ?_ | refine At.val (Val.bin rfl rfl rfl) rfl rfl rfl ?_
      refine tA rfl rfl ?_
      refine tE ?_
      exact At.again (j + 1, v18) (show j + 1 ≤ m by omega) (by dsimp only; omega) (Sub.cons rfl (Sub.cons rfl (Sub.cons rfl (Sub.cons rfl (Sub.cons (congrArg (fun z => some (Value.int IntKind.i64 z)) (by dsimp only; omega)) Sub.nil))))) (by dsimp only; rw [List.take_succ_of_get (wordsL_at (l := svB T L) hjm), stA_snoc, ← List.append_assoc, List.length_take, wordsL_length, Nat.min_eq_left (Nat.le_of_lt hjm)])
     ·skip
      try simp only [hasB, isSizeB, Bool.not_eq_true', Bool.not_eq_false', bne_iff_ne, ne_eq, bne_eq_false_iff_eq, beq_iff_eq, beq_eq_false_iff_ne, decide_eq_true_eq, decide_eq_false_iff_not, gt_iff_lt, ge_iff_le] at h17
      refine At.exitC ?_
      refine At.thenX ?_
      refine At.thenX ?_
      refine At.blkX ?_
      refine At.thenN ?_
      refine At.seq ?_
      rw [List.take_of_length_le (by rw [wordsL_length]; omega)]
      refine At.region ?_
      refine tM rfl rfl ?_
      refine tM rfl rfl ?_
      refine At.val (Val.lenRow (i := 1) Tryz.underlying59 rfl rfl) rfl rfl rfl ?_
      refine At.callR 0 (n := ((cleanA 0) ++ stA 128 (wordsL (svB T L) m)).length) (xs := acC ((cleanA 0) ++ stA 128 (wordsL (svB T L) m))) rfl (fun w hw hr => (by have h0 := flushes_n _ ((cleanA 0) ++ stA 128 (wordsL (svB T L) m)) 1024 (svB T L).length (cntL 1024 (svB T L).length) w hr (by simp only [List.length_append, stA_len, flA_len, wordsL_length, List.length_cons, List.length_nil, show (cleanA 0).length = 3 from rfl]; have := cntR_le (svB T L) hb1; omega) (by decide) (by omega) (cntL_P _ _); rw [show 1024 / 64 = 16 from rfl] at h0; exact h0)) Tryz.call58 rfl rfl (fun v19 => ?_)
      simp only [sc0, scS]
      refine tA rfl rfl ?_
      refine tE ?_
      refine tR ?_
      refine tM rfl rfl ?_
      refine At.callR 0 (n := (((cleanA 0) ++ stA 128 (wordsL (svB T L) m)) ++ flA 16 (cntL 1024 (svB T L).length)).length) (xs := acC (((cleanA 0) ++ stA 128 (wordsL (svB T L) m)) ++ flA 16 (cntL 1024 (svB T L).length))) rfl (fun w hw hr => afe_n _ (((cleanA 0) ++ stA 128 (wordsL (svB T L) m)) ++ flA 16 (cntL 1024 (svB T L).length)) w hr (by simp only [List.length_append, stA_len, flA_len, wordsL_length, List.length_cons, List.length_nil, show (cleanA 0).length = 3 from rfl]; have := cntR_le (svB T L) hb1; omega)) Tryz.call59 rfl rfl (fun v20 => ?_)
      simp only [sc0, scS]
      refine tA rfl rfl ?_
      refine tE ?_
      refine tR ?_
      refine tM rfl rfl ?_
      refine tM rfl rfl ?_
      refine At.callP (fun w hw => sealR_p 128 T w) Tryz.call60 rfl rfl ?_
      refine At.callR 0 (n := ((((cleanA 0) ++ stA 128 (wordsL (svB T L) m)) ++ flA 16 (cntL 1024 (svB T L).length)) ++ [Ac.fe]).length) (xs := acC ((((cleanA 0) ++ stA 128 (wordsL (svB T L) m)) ++ flA 16 (cntL 1024 (svB T L).length)) ++ [Ac.fe])) rfl (fun w hw hr => ast_n _ ((((cleanA 0) ++ stA 128 (wordsL (svB T L) m)) ++ flA 16 (cntL 1024 (svB T L).length)) ++ [Ac.fe]) 16 (sealW (BitVec.ofInt 64 128) T) w hr (by simp only [List.length_append, stA_len, flA_len, wordsL_length, List.length_cons, List.length_nil, show (cleanA 0).length = 3 from rfl]; have := cntR_le (svB T L) hb1; omega)) Tryz.call57 rfl rfl (fun v21 => ?_)
      simp only [sc0, scS]
      refine tA rfl rfl ?_
      refine tE ?_
      refine tR ?_
      refine tM rfl rfl ?_
      refine At.callR 0 (n := (((((cleanA 0) ++ stA 128 (wordsL (svB T L) m)) ++ flA 16 (cntL 1024 (svB T L).length)) ++ [Ac.fe]) ++ [Ac.st 16 (sealW (BitVec.ofInt 64 128) T)]).length) (xs := acC (((((cleanA 0) ++ stA 128 (wordsL (svB T L) m)) ++ flA 16 (cntL 1024 (svB T L).length)) ++ [Ac.fe]) ++ [Ac.st 16 (sealW (BitVec.ofInt 64 128) T)])) rfl (fun w hw hr => afl_n _ (((((cleanA 0) ++ stA 128 (wordsL (svB T L) m)) ++ flA 16 (cntL 1024 (svB T L).length)) ++ [Ac.fe]) ++ [Ac.st 16 (sealW (BitVec.ofInt 64 128) T)]) 2 w hr (by simp only [List.length_append, stA_len, flA_len, wordsL_length, List.length_cons, List.length_nil, show (cleanA 0).length = 3 from rfl]; have := cntR_le (svB T L) hb1; omega)) Tryz.call61 rfl rfl (fun v22 => ?_)
      simp only [sc0, scS]
      refine tA rfl rfl ?_
      refine tE ?_
      refine tR ?_
      refine tM rfl rfl ?_
      refine At.callR 0 (n := ((((((cleanA 0) ++ stA 128 (wordsL (svB T L) m)) ++ flA 16 (cntL 1024 (svB T L).length)) ++ [Ac.fe]) ++ [Ac.st 16 (sealW (BitVec.ofInt 64 128) T)]) ++ [Ac.fl 2]).length) (xs := acC ((((((cleanA 0) ++ stA 128 (wordsL (svB T L) m)) ++ flA 16 (cntL 1024 (svB T L).length)) ++ [Ac.fe]) ++ [Ac.st 16 (sealW (BitVec.ofInt 64 128) T)]) ++ [Ac.fl 2])) rfl (fun w hw hr => afe_n _ ((((((cleanA 0) ++ stA 128 (wordsL (svB T L) m)) ++ flA 16 (cntL 1024 (svB T L).length)) ++ [Ac.fe]) ++ [Ac.st 16 (sealW (BitVec.ofInt 64 128) T)]) ++ [Ac.fl 2]) w hr (by simp only [List.length_append, stA_len, flA_len, wordsL_length, List.length_cons, List.length_nil, show (cleanA 0).length = 3 from rfl]; have := cntR_le (svB T L) hb1; omega)) Tryz.call59 rfl rfl (fun v23 => ?_)
      simp only [sc0, scS]
      refine tA rfl rfl ?_
      refine tE ?_
      refine At.seq ?_
      rw [show (((((((cleanA 0) ++ stA 128 (wordsL (svB T L) m)) ++ flA 16 (cntL 1024 (svB T L).length)) ++ [Ac.fe]) ++ [Ac.st 16 (sealW (BitVec.ofInt 64 128) T)]) ++ [Ac.fl 2]) ++ [Ac.fe]) = saveA σ L from by unfold saveA recA recS recF cleanA; rw [hF, ← hT, ← hm]; simp only [cleanA, List.append_assoc, List.nil_append, List.cons_append]]
      refine At.region ?_
      refine tM rfl rfl ?_
      refine tM rfl rfl ?_
      refine At.callRP 2 rfl (fun w hw hr => play_s _ _ _ σ _ (saveA σ L) w hsim (arow_rdN (L := (saveA σ L)) (hw.row (i := 0) rfl)) (Rep.offRow (i := 0) (j := 2) hw rfl rfl (by decide)) (saveA_ok (by omega) (by rw [← hT]; exact hb1)) (by have := saveA_len (σ := σ) (L := L) (by rw [← hT]; exact hb1); omega) hr) Tryz.call39 rfl rfl (fun y24 r25 hs26 => ?_)
      simp only [sc0, scS]
      refine tA rfl rfl ?_
      refine tE ?_
      refine tR ?_
      refine tM rfl rfl ?_
      refine At.val (Val.bin rfl rfl rfl) rfl rfl rfl ?_
      refine tM rfl rfl ?_
      refine tA rfl rfl ?_
      refine tA rfl rfl ?_
      refine tE ?_
      refine At.retC ?_
      refine At.ret2 (.inl rfl) rfl rfl rfl rfl (fun w hw => ?_)
      have e : saveE σ L = (decide ((actsE σ (saveA σ L)).1 = 0), (actsE σ (saveA σ L)).1, (actsE σ (saveA σ L)).2) := by
        unfold saveE
        rw [if_neg (Classical.not_not.2 hsp), if_neg (by omega), if_neg (by omega)]
      rw [e]
      exact ⟨_, _, rfl, hs26, hw.drop (List.singleton_sublist.2 (List.mem_of_getElem? (i := 2) rfl))⟩
theorem cleanT_is {l : List UInt8} (h : sealW (BitVec.ofInt 64 128) ((wdA l 128).setWidth 32) = wdA l 128) : cleanT l = (wdA l 128).setWidth 32 := if_pos h
theorem cleanT_no {l : List UInt8} (h : ¬ sealW (BitVec.ofInt 64 128) ((wdA l 128).setWidth 32) = wdA l 128) : cleanT l = 0 := if_neg h
theorem restore13_n (v u : Value) (l : List UInt8) (p i c dt : Int) (M : List (Int × Int)) (w : World) (hv : RdB w v l) (hu : RdS w u M) (hlen : l.length ≤ 140737488355328) (hm : M.length ≤ 8796093022144) (hp : -9223372036854775808 ≤ p ∧ p ≤ 9223372036854775807) :
    NewRowT Tryz.prog 23 [v, .agg #[.int .i64 p, .int .i64 i, .int .i64 c, .int .i64 dt, .slice none 0 0, u]] (fun v => .tuple #[v, .int .i64 (restE l p i c dt M)]) 100 2 (restL l p i c dt M).length (prS (restL l p i c dt M)) w := by
 obtain ⟨A, cu, rfl⟩ : ∃ A c, u = .slice A M.length c := by obtain ⟨A, c, h, _⟩ := hu; exact ⟨A, c, h⟩
 refine enter0 Tryz.func23 rfl Tryz.ntmps23 rfl ?_
 simp only [envOf]
 refine tR ?_
 refine At.box rfl rfl rfl (fun b1 => ?_)
 refine tA rfl rfl ?_
 refine tA rfl rfl ?_
 refine tE ?_
 refine At.seq ?_
 refine tR ?_
 refine At.val (Val.field 0 rfl fo_64_0 rfl) rfl rfl rfl ?_
 refine At.val (Val.loadPart (i := 0) Tryz.isAgg34 Tryz.sizeOf34 rfl rfl rfl rfl) rfl rfl rfl ?_
 refine tM rfl rfl ?_
 refine At.val (Val.lenRd hv Tryz.underlying59 rfl) rfl rfl rfl ?_
 refine At.callP (fun w hw => fitsR_p p i c dt (l.length : Int) w hp) Tryz.call70 rfl rfl ?_
 refine At.val (Val.not rfl) rfl rfl rfl ?_
 refine tE ?_
 refine At.cond rfl (fun h2 => ?_) (fun h2 => ?_)
 ·skip
  try simp only [hasB, isSizeB, Bool.not_eq_true', Bool.not_eq_false', bne_iff_ne, ne_eq, bne_eq_false_iff_eq, beq_iff_eq, beq_eq_false_iff_ne, decide_eq_true_eq, decide_eq_false_iff_not, gt_iff_lt, ge_iff_le] at h2
  have hbad := h2
  refine tR ?_
  refine tA rfl rfl ?_
  refine tA rfl rfl ?_
  refine At.nil ?_
  refine At.rowNilS 100 ?_
  refine At.thenN ?_
  refine At.retC ?_
  refine At.thenR ?_
  refine At.ret2 (.inl rfl) rfl rfl rfl rfl (fun w hw => ?_)
  have e : (restE l p i c dt M) = 30 := by unfold restE; rw [if_pos hbad]
  have e2 : (restL l p i c dt M) = [] := restL_no e (by decide)
  rw [e, e2]
  exact ⟨_, rfl, (hw.drop (List.singleton_sublist.2 (List.mem_of_getElem? (i := 0) rfl))).f0⟩
 ·skip
  try simp only [hasB, isSizeB, Bool.not_eq_true', Bool.not_eq_false', bne_iff_ne, ne_eq, bne_eq_false_iff_eq, beq_iff_eq, beq_eq_false_iff_ne, decide_eq_true_eq, decide_eq_false_iff_not, gt_iff_lt, ge_iff_le] at h2
  obtain ⟨hg, hdt, hnl⟩ := h2
  have hg2 := hg
  unfold GoodSup at hg2
  have h0 : 2048 ≤ l.length := by omega
  refine At.skipC ?_
  refine At.thenN ?_
  refine tR ?_
  refine tM rfl rfl ?_
  refine At.callP (fun w hw => (by have h0 := wordS_p v l 128 w (hv.mod hw.mod) hlen (by omega); rw [wdA_val] at h0; exact h0)) Tryz.call56 rfl rfl ?_
  refine tM rfl rfl ?_
  refine At.val (Val.extract rfl rfl) rfl rfl rfl ?_
  refine At.val (Val.extract rfl rfl) rfl rfl rfl ?_
  refine tA rfl rfl ?_
  refine tA rfl rfl ?_
  refine tE ?_
  refine tR ?_
  refine tM rfl rfl ?_
  by_cases hs : sealW (BitVec.ofInt 64 128) ((wdA l 128).setWidth 32) = wdA l 128
  ·skip
   refine At.callP (fun w hw => (by have := unsealR_p 128 (wdA l 128) w; rwa [unseal_yes hs] at this)) Tryz.call71 rfl rfl ?_
   refine tM rfl rfl ?_
   refine At.val (Val.extract rfl rfl) rfl rfl rfl ?_
   refine At.val (Val.extract rfl rfl) rfl rfl rfl ?_
   refine tA rfl rfl ?_
   refine tA rfl rfl ?_
   refine tE ?_
   refine At.seq ?_
   refine tR ?_
   refine tM rfl rfl ?_
   refine At.val (Val.bin rfl rfl rfl) rfl rfl rfl ?_
   refine tM rfl rfl ?_
   refine At.yes rfl rfl ?_
   refine tM rfl rfl ?_
   refine At.yes rfl rfl ?_
   refine At.val (Val.bin rfl rfl rfl) rfl rfl rfl ?_
   refine At.val (Val.pickF rfl rfl) rfl rfl rfl ?_
   refine tE ?_
   refine At.cond rfl (fun h3 => ?_) (fun h3 => ?_)
   ·skip
    try simp only [hasB, isSizeB, Bool.not_eq_true', Bool.not_eq_false', bne_iff_ne, ne_eq, bne_eq_false_iff_eq, beq_iff_eq, beq_eq_false_iff_ne, decide_eq_true_eq, decide_eq_false_iff_not, gt_iff_lt, ge_iff_le] at h3
    have hct : cleanT l = 0 := by rw [cleanT_is hs]; exact b32_0 h3
    refine tR ?_
    refine tA rfl rfl ?_
    refine tA rfl rfl ?_
    refine At.nil ?_
    refine At.rowNilS 100 ?_
    refine At.thenN ?_
    refine At.retC ?_
    refine At.thenR ?_
    refine At.ret2 (.inl rfl) rfl rfl rfl rfl (fun w hw => ?_)
    have e : (restE l p i c dt M) = 130 := by unfold restE; rw [if_neg (Classical.not_not.2 ⟨hg, hdt, hnl⟩), if_pos hct]
    have e2 : (restL l p i c dt M) = [] := restL_no e (by decide)
    rw [e, e2]
    exact ⟨_, rfl, (hw.drop (List.singleton_sublist.2 (List.mem_of_getElem? (i := 0) rfl))).f0⟩
   ·skip
    try simp only [hasB, isSizeB, Bool.not_eq_true', Bool.not_eq_false', bne_iff_ne, ne_eq, bne_eq_false_iff_eq, beq_iff_eq, beq_eq_false_iff_ne, decide_eq_true_eq, decide_eq_false_iff_not, gt_iff_lt, ge_iff_le] at h3
    have hct : cleanT l ≠ 0 := by rw [cleanT_is hs]; exact b32_n h3
    refine At.skipC ?_
    refine At.thenN ?_
    refine tR ?_
    refine tM rfl rfl ?_
    refine At.callNT (g := (fun v => .tuple #[.agg #[b32 (oT (area l)), v], .int .i64 (oE (area l))])) (fun w hw => record13_n v l w (hv.mod hw.mod) h0 hlen) Tryz.call72 rfl rfl (fun v4 => ?_)
    refine tM rfl rfl ?_
    refine At.val (Val.extract rfl rfl) rfl rfl rfl ?_
    refine At.val (Val.extract rfl rfl) rfl rfl rfl ?_
    refine At.alloc Tryz.zeroValue90 rfl rfl (fun b5 => ?_)
    refine At.rowOne (i := 1) rfl (fun ho6 => ?_)
    refine At.storeAll (i := 0) Tryz.sizeOf90 rfl rfl rfl (by intro u hu; simp only [List.mem_cons, List.not_mem_nil, or_false] at hu; rcases hu with rfl | rfl <;> first | rfl | assumption) rfl rfl ?_
    simp only [sc0, scS]
    refine tA rfl rfl ?_
    refine tE ?_
    refine At.seq ?_
    refine tR ?_
    refine tM rfl rfl ?_
    refine At.val (Val.bin rfl rfl rfl) rfl rfl rfl ?_
    refine tE ?_
    refine At.cond rfl (fun h7 => ?_) (fun h7 => ?_)
    ·skip
     try simp only [hasB, isSizeB, Bool.not_eq_true', Bool.not_eq_false', bne_iff_ne, ne_eq, bne_eq_false_iff_eq, beq_iff_eq, beq_eq_false_iff_ne, decide_eq_true_eq, decide_eq_false_iff_not, gt_iff_lt, ge_iff_le] at h7
     have hoe : oE (area l) ≠ 0 := h7
     refine tR ?_
     refine tA rfl rfl ?_
     refine tA rfl rfl ?_
     refine At.nil ?_
     refine At.rowNilS 100 ?_
     refine At.thenN ?_
     refine At.retC ?_
     refine At.thenR ?_
     refine At.ret2 (.inl rfl) rfl rfl rfl rfl (fun w hw => ?_)
     have e : (restE l p i c dt M) = 36 := by unfold restE; rw [if_neg (Classical.not_not.2 ⟨hg, hdt, hnl⟩), if_neg hct, if_pos hoe]
     have e2 : (restL l p i c dt M) = [] := restL_no e (by decide)
     rw [e, e2]
     exact ⟨_, rfl, (hw.drop (List.singleton_sublist.2 (List.mem_of_getElem? (i := 0) rfl))).f0⟩
    ·skip
     try simp only [hasB, isSizeB, Bool.not_eq_true', Bool.not_eq_false', bne_iff_ne, ne_eq, bne_eq_false_iff_eq, beq_iff_eq, beq_eq_false_iff_ne, decide_eq_true_eq, decide_eq_false_iff_not, gt_iff_lt, ge_iff_le] at h7
     have hoe : ¬ oE (area l) ≠ 0 := fun hzz => hzz (by first | exact h7 | exact Classical.not_not.1 h7)
     refine At.skipC ?_
     refine At.thenN ?_
     refine At.seq ?_
     refine tR ?_
     refine At.val (Val.field 0 rfl fo_90_0 rfl) rfl rfl rfl ?_
     refine At.val (Val.load (i := 0) Tryz.isAgg76 rfl rfl rfl) rfl rfl rfl ?_
     refine tM rfl rfl ?_
     refine At.val (Val.bin rfl rfl rfl) rfl rfl rfl ?_
     refine tE ?_
     refine At.cond rfl (fun h8 => ?_) (fun h8 => ?_)
     ·skip
      try simp only [hasB, isSizeB, Bool.not_eq_true', Bool.not_eq_false', bne_iff_ne, ne_eq, bne_eq_false_iff_eq, beq_iff_eq, beq_eq_false_iff_ne, decide_eq_true_eq, decide_eq_false_iff_not, gt_iff_lt, ge_iff_le] at h8
      have hot : oT (area l) ≠ cleanT l := by rw [cleanT_is hs]; exact b32_d h8
      refine tR ?_
      refine tA rfl rfl ?_
      refine tA rfl rfl ?_
      refine At.nil ?_
      refine At.rowNilS 100 ?_
      refine At.thenN ?_
      refine At.retC ?_
      refine At.thenR ?_
      refine At.ret2 (.inl rfl) rfl rfl rfl rfl (fun w hw => ?_)
      have e : (restE l p i c dt M) = 131 := by unfold restE; rw [if_neg (Classical.not_not.2 ⟨hg, hdt, hnl⟩), if_neg hct, if_neg hoe, if_pos hot]
      have e2 : (restL l p i c dt M) = [] := restL_no e (by decide)
      rw [e, e2]
      exact ⟨_, rfl, (hw.drop (List.singleton_sublist.2 (List.mem_of_getElem? (i := 0) rfl))).f0⟩
     ·skip
      try simp only [hasB, isSizeB, Bool.not_eq_true', Bool.not_eq_false', bne_iff_ne, ne_eq, bne_eq_false_iff_eq, beq_iff_eq, beq_eq_false_iff_ne, decide_eq_true_eq, decide_eq_false_iff_not, gt_iff_lt, ge_iff_le] at h8
      have hot : ¬ oT (area l) ≠ cleanT l := fun hzz => hzz (by rw [cleanT_is hs]; exact b32_e (by first | exact h8 | exact Classical.not_not.1 h8))
      have h249 := oL_le (area l)
      refine At.skipC ?_
      refine At.thenN ?_
      refine tR ?_
      refine At.val (Val.field 1 rfl fo_90_1 rfl) rfl rfl rfl ?_
      refine At.val (Val.load (i := 0) Tryz.isAgg35 rfl rfl rfl) rfl rfl rfl ?_
      refine At.val (Val.lenRow (i := 1) Tryz.underlying35 rfl rfl) rfl rfl rfl ?_
      refine At.val (Val.field 5 rfl fo_64_2 rfl) rfl rfl rfl ?_
      refine At.val (Val.load (i := 2) Tryz.isAgg35 rfl rfl rfl) rfl rfl rfl ?_
      refine At.val (Val.lenRd hu Tryz.underlying35 rfl) rfl rfl rfl ?_
      refine At.val (Val.bin rfl rfl rfl) rfl rfl rfl ?_
      refine tA rfl rfl ?_
      refine tE ?_
      refine At.seq ?_
      refine tR ?_
      refine tA rfl rfl ?_
      refine tE ?_
      refine At.block ?_
      skip
      refine At.loop (σ := Nat) (fun k => k ≤ (oL (area l)).length) (fun k => [(3, .pointer (some ⟨b1, 0, none⟩)), (10, .pointer (some ⟨b5, 0, none⟩)), (12, .bool (decide ((oL (area l)).length = M.length ∧ (oL (area l)).take k = M.take k))), (13, .int .i64 (k : Int))]) (fun k => [blk b5 90 ([b32 (oT (area l)), v4]), rowR v4 100 2 ((oL (area l)).length) (prS (oL (area l))), blk b1 64 ([.int .i64 p, .int .i64 i, .int .i64 c, .int .i64 dt, .slice none 0 0, (.slice A M.length cu)])]) (fun k => (oL (area l)).length - k) 0 (Nat.zero_le _) (Sub.cons rfl (Sub.cons rfl (Sub.cons (congrArg (fun b => some (Value.bool b)) (by rw [List.take_zero, List.take_zero]; apply Bool.eq_iff_iff.2; simp only [beq_iff_eq, decide_eq_true_eq, and_true]; omega)) (Sub.cons rfl Sub.nil)))) (List.Perm.refl _) ?_
      intro k hs
      refine At.seq ?_
      refine tR ?_
      refine tM rfl rfl ?_
      refine At.weaken [(3, _), (10, _), (12, _), (13, _), (54, _)] (Sub.cons rfl (Sub.cons rfl (Sub.cons rfl (Sub.cons rfl (Sub.cons rfl Sub.nil))))) ?_
      refine At.boolMeet 7 61 (decide (((oL (area l)).length = M.length ∧ (oL (area l)).take k = M.take k) ∧ k < (oL (area l)).length)) ?_ ?_
      ·skip
       simp only [List.take_succ_cons, List.take_zero]
       refine tM rfl rfl ?_
       refine At.split (t := 55) rfl (fun h9 => ?_) (fun h9 => ?_)
       ·skip
        try simp only [hasB, isSizeB, Bool.not_eq_true', Bool.not_eq_false', bne_iff_ne, ne_eq, bne_eq_false_iff_eq, beq_iff_eq, beq_eq_false_iff_ne, decide_eq_true_eq, decide_eq_false_iff_not, gt_iff_lt, ge_iff_le] at h9
        refine At.yes rfl rfl ?_
        refine tM rfl rfl ?_
        refine At.yes rfl rfl ?_
        refine At.val (Val.field 1 rfl fo_90_1 rfl) rfl rfl rfl ?_
        refine At.yes rfl rfl ?_
        refine At.val (Val.load (i := 0) Tryz.isAgg35 rfl rfl rfl) rfl rfl rfl ?_
        refine At.yes rfl rfl ?_
        refine At.val (Val.lenRow (i := 1) Tryz.underlying35 rfl rfl) rfl rfl rfl ?_
        refine At.yes rfl rfl ?_
        refine At.val (Val.bin rfl rfl rfl) rfl rfl rfl ?_
        refine At.val (Val.pickT rfl rfl) rfl rfl rfl ?_
        refine At.nil ?_
        exact At.boolEnd rfl (by apply Bool.eq_iff_iff.2; simp only [decide_eq_true_eq, Bool.false_eq_true, false_iff, Int.ofNat_lt]; first | exact ⟨fun h9 => ⟨by assumption, h9⟩, fun h9 => h9.2⟩ | exact fun h9 => absurd h9.1 (by assumption) | (constructor <;> intro h9 <;> simp_all) | (intro h9; simp_all)) (by repeat (first | exact Sub.nil | refine Sub.cons rfl ?_))
       ·skip
        try simp only [hasB, isSizeB, Bool.not_eq_true', Bool.not_eq_false', bne_iff_ne, ne_eq, bne_eq_false_iff_eq, beq_iff_eq, beq_eq_false_iff_ne, decide_eq_true_eq, decide_eq_false_iff_not, gt_iff_lt, ge_iff_le] at h9
        refine At.no rfl rfl rfl rfl ?_
        refine At.no rfl rfl rfl rfl ?_
        refine At.no rfl rfl rfl rfl ?_
        refine At.no rfl rfl rfl rfl ?_
        refine At.no rfl rfl rfl rfl ?_
        refine At.val (Val.pickF rfl rfl) rfl rfl rfl ?_
        refine At.nil ?_
        exact At.boolEnd rfl (by apply Bool.eq_iff_iff.2; simp only [decide_eq_true_eq, Bool.false_eq_true, false_iff, Int.ofNat_lt]; first | exact ⟨fun h9 => ⟨by assumption, h9⟩, fun h9 => h9.2⟩ | exact fun h9 => absurd h9.1 (by assumption) | (constructor <;> intro h9 <;> simp_all) | (intro h9; simp_all)) (by repeat (first | exact Sub.nil | refine Sub.cons rfl ?_))
      ·skip
       simp only [List.drop_succ_cons, List.drop_zero]
       refine tE ?_
       refine At.cond rfl (fun h10 => ?_) (fun h10 => ?_)
       ·skip
        try simp only [hasB, isSizeB, Bool.not_eq_true', Bool.not_eq_false', bne_iff_ne, ne_eq, bne_eq_false_iff_eq, beq_iff_eq, beq_eq_false_iff_ne, decide_eq_true_eq, decide_eq_false_iff_not, gt_iff_lt, ge_iff_le] at h10
        obtain ⟨hP, hk⟩ := h10
        have hP1 := hP.1
        refine At.skipC ?_
        refine At.thenN ?_
        refine At.seq ?_
        refine At.block ?_
        refine At.quiet rfl (by decide +kernel) ?_
        refine QAt.val (Val.field 1 rfl fo_90_1 rfl) rfl rfl rfl ?_
        refine QAt.val (Val.load (i := 0) Tryz.isAgg35 rfl rfl rfl) rfl rfl rfl ?_
        refine qM rfl rfl ?_
        obtain ⟨qa, hqa⟩ : ∃ q, (oL (area l))[k]? = some q := ⟨_, List.getElem?_eq_getElem (by omega)⟩
        obtain ⟨qb, hqb⟩ : ∃ q, M[k]? = some q := ⟨_, List.getElem?_eq_getElem (by omega)⟩
        refine QAt.val (Val.indexRow (i := 1) (k * 2) (by omega) Tryz.underlying35 Tryz.sizeOf100 rfl rfl rfl (by omega) (by omega)) rfl rfl rfl ?_
        refine QAt.val (Val.loadRowS (i := 1) (j := k) Tryz.isAgg100 Tryz.sizeOf100 rfl rfl hqa) rfl rfl rfl ?_
        refine QAt.val (Val.field 5 rfl fo_64_2 rfl) rfl rfl rfl ?_
        refine QAt.val (Val.load (i := 2) Tryz.isAgg35 rfl rfl rfl) rfl rfl rfl ?_
        refine qM rfl rfl ?_
        refine QAt.idxS hu Tryz.underlying35 Tryz.sizeOf100 rfl rfl (by omega) (by omega) rfl rfl (fun b11 o12 q13 hq14 hc15 hd16 => ?_)
        refine QAt.val (Val.loadSpan Tryz.isAgg100 Tryz.sizeOf100 rfl hc15 hd16 (fun h => h)) rfl rfl rfl ?_
        have hqe : qb = q13 := by have h8 := hq14; rw [Int.toNat_natCast, hqb] at h8; exact Option.some.inj h8
        refine QAt.val (Val.eqAgg Tryz.eqGuardType100 (fun w => eq_100 _ _ _ _ w) rfl rfl) rfl rfl rfl ?_
        rw [← hqe, eq_span]
        refine QAt.val (Val.assign rfl) rfl rfl rfl ?_
        refine QAt.fin ?_
        refine At.blkN ?_
        refine At.thenN ?_
        refine At.region ?_
        refine tM rfl rfl ?_
        first | refine At.val (Val.addI rfl rfl (by omega) (by omega)) rfl rfl rfl ?_ | refine At.val (Val.bin rfl rfl rfl) rfl rfl rfl ?_
        refine tA rfl rfl ?_
        refine tE ?_
        exact At.again (k + 1) (by omega) (by omega) (Sub.cons rfl (Sub.cons rfl (Sub.cons (congrArg (fun b => some (Value.bool b)) (decide_eq_decide.2 ⟨fun e => ⟨hP.1, by rw [List.take_succ_of_get hqa, List.take_succ_of_get hqb, hP.2, e]⟩, fun e => by have e2 := e.2; rw [List.take_succ_of_get hqa, List.take_succ_of_get hqb, hP.2] at e2; have e3 := List.append_cancel_left e2; exact (List.cons.inj e3).1⟩)) (Sub.cons (congrArg (fun z => some (Value.int IntKind.i64 z)) (by omega)) Sub.nil)))) (List.Perm.refl _)
       ·skip
        try simp only [hasB, isSizeB, Bool.not_eq_true', Bool.not_eq_false', bne_iff_ne, ne_eq, bne_eq_false_iff_eq, beq_iff_eq, beq_eq_false_iff_ne, decide_eq_true_eq, decide_eq_false_iff_not, gt_iff_lt, ge_iff_le] at h10
        have hnP := h10
        refine At.exitC ?_
        refine At.thenX ?_
        refine At.thenX ?_
        refine At.blkX ?_
        refine At.thenN ?_
        refine At.seq ?_
        refine tR ?_
        refine tM rfl rfl ?_
        refine At.val (Val.not rfl) rfl rfl rfl ?_
        refine tE ?_
        refine At.cond rfl (fun h17 => ?_) (fun h17 => ?_)
        ·skip
         try simp only [hasB, isSizeB, Bool.not_eq_true', Bool.not_eq_false', bne_iff_ne, ne_eq, bne_eq_false_iff_eq, beq_iff_eq, beq_eq_false_iff_ne, decide_eq_true_eq, decide_eq_false_iff_not, gt_iff_lt, ge_iff_le] at h17
         have hol : oL (area l) ≠ M := fun e => absurd (show ((oL (area l)).length = M.length ∧ (oL (area l)).take k = M.take k) from ⟨by rw [e], by rw [e]⟩) h17
         refine tR ?_
         refine tA rfl rfl ?_
         refine tA rfl rfl ?_
         refine At.nil ?_
         refine At.rowNilS 100 ?_
         refine At.thenN ?_
         refine At.retC ?_
         refine At.thenR ?_
         refine At.ret2 (.inl rfl) rfl rfl rfl rfl (fun w hw => ?_)
         have e : (restE l p i c dt M) = 132 := by unfold restE; rw [if_neg (Classical.not_not.2 ⟨hg, hdt, hnl⟩), if_neg hct, if_neg hoe, if_neg hot, if_pos hol]
         have e2 : (restL l p i c dt M) = [] := restL_no e (by decide)
         rw [e, e2]
         exact ⟨_, rfl, (hw.drop (List.singleton_sublist.2 (List.mem_of_getElem? (i := 0) rfl))).f0⟩
        ·skip
         try simp only [hasB, isSizeB, Bool.not_eq_true', Bool.not_eq_false', bne_iff_ne, ne_eq, bne_eq_false_iff_eq, beq_iff_eq, beq_eq_false_iff_ne, decide_eq_true_eq, decide_eq_false_iff_not, gt_iff_lt, ge_iff_le] at h17
         have hol : ¬ oL (area l) ≠ M := fun hzz => hzz (by have hP : ((oL (area l)).length = M.length ∧ (oL (area l)).take k = M.take k) := h17; have hkl : ¬ k < (oL (area l)).length := fun h9 => hnP ⟨hP, h9⟩; have h2 := hP.2; rw [List.take_of_length_le (by omega), List.take_of_length_le (by omega)] at h2; exact h2)
         refine At.skipC ?_
         refine At.thenN ?_
         refine tR ?_
         refine At.val (Val.field 1 rfl fo_90_1 rfl) rfl rfl rfl ?_
         refine At.val (Val.load (i := 0) Tryz.isAgg35 rfl rfl rfl) rfl rfl rfl ?_
         refine tA rfl rfl ?_
         refine tA rfl rfl ?_
         refine tE ?_
         refine At.retC ?_
         refine At.ret2 (.inl rfl) rfl rfl rfl rfl (fun w hw => ?_)
         have e : (restE l p i c dt M) = 0 := by unfold restE; rw [if_neg (Classical.not_not.2 ⟨hg, hdt, hnl⟩), if_neg hct, if_neg hoe, if_neg hot, if_neg hol]
         have e2 : (restL l p i c dt M) = M := restL_yes e
         rw [e, e2]
         have hol' := Classical.not_not.1 hol
         rw [← hol']
         exact ⟨_, rfl, (hw.drop (List.singleton_sublist.2 (List.mem_of_getElem? (i := 1) rfl))).f0⟩
  ·skip
   have hct := cleanT_no hs
   refine At.callP (fun w hw => (by have := unsealR_p 128 (wdA l 128) w; rwa [unseal_no hs] at this)) Tryz.call71 rfl rfl ?_
   refine tM rfl rfl ?_
   refine At.val (Val.extract rfl rfl) rfl rfl rfl ?_
   refine At.val (Val.extract rfl rfl) rfl rfl rfl ?_
   refine tA rfl rfl ?_
   refine tA rfl rfl ?_
   refine tE ?_
   refine At.seq ?_
   refine tR ?_
   refine tM rfl rfl ?_
   refine At.val (Val.bin rfl rfl rfl) rfl rfl rfl ?_
   refine tM rfl rfl ?_
   refine At.no rfl rfl rfl rfl ?_
   refine At.no rfl rfl rfl rfl ?_
   refine At.val (Val.pickT rfl rfl) rfl rfl rfl ?_
   refine tE ?_
   refine At.condT rfl ?_
   refine tR ?_
   refine tA rfl rfl ?_
   refine tA rfl rfl ?_
   refine At.nil ?_
   refine At.rowNilS 100 ?_
   refine At.thenN ?_
   refine At.retC ?_
   refine At.thenR ?_
   refine At.ret2 (.inl rfl) rfl rfl rfl rfl (fun w hw => ?_)
   have e : (restE l p i c dt M) = 130 := by unfold restE; rw [if_neg (Classical.not_not.2 ⟨hg, hdt, hnl⟩), if_pos hct]
   have e2 : (restL l p i c dt M) = [] := restL_no e (by decide)
   rw [e, e2]
   exact ⟨_, rfl, (hw.drop (List.singleton_sublist.2 (List.mem_of_getElem? (i := 0) rfl))).f0⟩
end Go.Proofs.YthhkbbodhghmcaaGreatDoor
set_option linter.unusedVariables false
set_option linter.unusedSimpArgs false
namespace Go.Proofs.YthhkbbodhghmcaaGreatDoor
open Go Go.Wk
def dtsAt (ws : List Wd) (k : Nat) : Dt := match ws[k]? with | some w => (8 * (k : Int), w.old, w.news) | none => (0, 0, [])
/-- The words in doubt, rising: where, the old value, the news. -/
def dts (ws : List Wd) : List Dt := (dk ws).map (dtsAt ws)
theorem dtsAt_some {ws : List Wd} {k : Nat} {w : Wd} (h : ws[k]? = some w) : dtsAt ws k = (8 * (k : Int), w.old, w.news) := by unfold dtsAt; rw [h]
theorem dts_get {ws : List Wd} {K k : Nat} {w : Wd} (hK : (dk ws)[K]? = some k) (h : ws[k]? = some w) : (dts ws)[K]? = some (8 * (k : Int), w.old, w.news) := by
  unfold dts; rw [List.getElem?_map, hK]; show some (dtsAt ws k) = _; rw [dtsAt_some h]
theorem dts_length (ws : List Wd) : (dts ws).length = (dk ws).length := List.length_map ..
theorem dk_le (ws : List Wd) : (dk ws).length ≤ ws.length := Nat.le_trans (List.length_filter_le _ _) (by rw [List.length_range]; exact Nat.le_refl _)
theorem fst_snoc {ws : List Wd} {Q : List Dq} {K k : Nat} {w : Wd} {v : Value} (h : Q.map Prod.fst = (dts ws).take K) (hK : (dk ws)[K]? = some k) (hk : ws[k]? = some w) : (Q ++ [((8 * (k : Int), w.old, w.news), v)]).map Prod.fst = (dts ws).take (K + 1) := by
  rw [List.map_append, h, List.take_add_one, dts_get hK hk]; rfl
theorem fst_len {ws : List Wd} {Q : List Dq} {K : Nat} (h : Q.map Prod.fst = (dts ws).take K) (hK : K ≤ (dk ws).length) : Q.length = K := by
  have := congrArg List.length h
  rw [List.length_map, List.length_take, dts_length] at this; omega
theorem bs_44_0 (w : World) : (Instr.buildSlice 44 0 #[]).run Tryz.prog w = .ok (.slice (some ⟨w.heap.size, 0, none⟩) 0 0) (w.alloc (.cells [].toArray 32)) := by kernel_rfl
theorem clone_w (v : Value) (l : List (BitVec 64)) (w : World) (hv : RdW w v l) (hpos : 0 < l.length) (hl : l.length ≤ 1099511627776) :
    NewRow Tryz.prog 84 [v] tW 1 l.length (l.map b64) w := by
 refine enter (feet []) [] Tryz.func84 rfl Tryz.ntmps84 rfl ⟨by simp, by simp, by simp, Mod.refl _ _⟩ ?_
 obtain ⟨av, cv, hvs⟩ := rd_some hv hpos
 simp only [envOf]
 refine tR ?_
 refine tA rfl rfl ?_
 refine tE ?_
 refine At.seq ?_
 refine tR ?_
 refine tM rfl rfl ?_
 refine At.val (Val.eqNilS (t := 44) Tryz.underlying44 (congrArg some hvs)) rfl rfl rfl ?_
 refine tE ?_
 refine At.condF rfl ?_
 refine At.skipC ?_
 refine At.thenN ?_
 refine tR ?_
 refine At.buildRow (fun a ha => by simp only [List.map_toArray, List.map_cons, List.map_nil]; try rfl) (bs_44_0 ) 1 rfl (by decide) rfl (fun v1 => ?_)
 change At _ _ (wrow 32 v1 (([] : List (BitVec 64))) :: _) _
 refine tM rfl rfl ?_
 refine At.appendRdW (i := 0) (by_ := 8) Tryz.underlying44 info_32 rfl rfl rfl rfl rfl rfl rfl hv (fun _ _ _ _ _ _ _ h => by simp [feet] at h) (by simp only [List.length_nil]; omega) (by simp only [List.length_nil]; omega) rfl (fun v2 => ?_)
 simp only [List.set_cons_zero, List.nil_append]
 refine tA rfl rfl ?_
 refine tE ?_
 refine At.retC ?_
 refine At.ret1 (.inl rfl) rfl rfl rfl (fun w hw => ?_)
 exact ⟨_, rfl, hw⟩
theorem retDB {w w' : World} {p : Nat} {γ : Gh} {σ : Ds} {S : Nat → Prop} {v : Value} {Q : List Dq} {r : Res} (hw : Rep w S (star (newsR Q) :: drow v Q :: (devL p γ σ ++ [r])) w') : Rep w S [dbtR v Q, Dev p γ σ] w' := by
  have h1 := hw.toDbt
  have h2 : Rep w S (devL p γ σ ++ [dbtR v Q, r]) w' := h1.perm (List.perm_middle (l₁ := devL p γ σ) (a := dbtR v Q) (l₂ := [r])).symm
  exact (h2.shutS.perm (List.Perm.swap ..)).drop (List.Sublist.refl _ |>.cons _ |>.cons_cons _ |>.cons_cons _)
theorem doubts_k (p : Nat) (γ : Gh) (σ : Ds) (w : World) (hd : (Dev p γ σ).holds w) :
    DbtK Tryz.prog 40 [.pointer (some ⟨p, 0, none⟩)] (Dev p γ σ) (dts σ.ws) w := by
 refine enterV hd Tryz.func40 rfl Tryz.ntmps40 rfl ?_
 unfold devL
 have hgd := Dev.good hd
 have hln := hgd.len
 have hdl := dk_le σ.ws
 have hst := hgd.steps
 simp only [envOf]
 refine tR ?_
 refine tA rfl rfl ?_
 refine tE ?_
 refine tR ?_
 refine tA rfl rfl ?_
 refine tE ?_
 refine At.seq ?_
 refine tR ?_
 refine tM rfl rfl ?_
 refine At.callRKS (devL p γ σ) rfl (fun w hw hr => places_k p γ σ w hr) Tryz.call83 rfl rfl (fun v1 => ?_)
 refine At.sink5 ?_
 refine At.val (Val.lenRow (i := 5) Tryz.underlying36 rfl rfl) rfl rfl rfl ?_
 refine tM rfl rfl ?_
 refine At.nil ?_
 refine At.rowNil tDt 3 ?_
 refine At.starNil ?_
 refine At.thenN ?_
 refine At.block ?_
 skip
 refine At.loop (σ := Nat × List Dq × Value) (fun s => s.1 ≤ (dk σ.ws).length ∧ s.2.1.map Prod.fst = (dts σ.ws).take s.1) (fun s => [(0, .pointer (some ⟨p, 0, none⟩)), (3, s.2.2), (8, v1), (9, .int .i64 ((dk σ.ws).length : Int)), (10, .int .i64 (s.1 : Int))]) (fun s => [star (newsR s.2.1), drow s.2.2 s.2.1, blk p tDv [γ.vo, .map (some γ.mb), .int .i64 (σ.steps : Int), .bool σ.armed, .int .i64 (σ.left : Int)], wrow tW γ.vo (olds σ.ws), mapR γ.mb (mk σ.ws γ.g), fam (dI σ.ws γ.g), factR (Dgood σ), rowR v1 3 1 (dkeys σ.ws).length ((dkeys σ.ws).map (Value.int .i64))]) (fun s => (dk σ.ws).length - s.1) (0, [], .slice none 0 0) ⟨Nat.zero_le _, rfl⟩ (Sub.cons rfl (Sub.cons rfl (Sub.cons rfl (Sub.cons (congrArg (fun z => some (Value.int IntKind.i64 z)) (by rw [dkeys, List.length_map])) (Sub.cons rfl Sub.nil))))) (List.Perm.refl _) ?_
 intro s hs
 obtain ⟨K, Q, vd⟩ := s
 dsimp only at hs ⊢
 have hQl := fst_len hs.2 hs.1
 refine tR ?_
 refine At.val (Val.bin rfl rfl rfl) rfl rfl rfl ?_
 refine tE ?_
 refine At.seq ?_
 refine At.cond rfl (fun h2 => ?_) (fun h2 => ?_)
 ·skip
  try simp only [hasB, isSizeB, Bool.not_eq_true', Bool.not_eq_false', bne_iff_ne, ne_eq, bne_eq_false_iff_eq, beq_iff_eq, beq_eq_false_iff_ne, decide_eq_true_eq, decide_eq_false_iff_not, gt_iff_lt, ge_iff_le] at h2
  have hK : K < (dk σ.ws).length := by omega
  obtain ⟨k, hkK⟩ : ∃ k, (dk σ.ws)[K]? = some k := ⟨_, List.getElem?_eq_getElem hK⟩
  obtain ⟨wd, hk, hn⟩ := mem_dk.1 (List.mem_of_getElem? hkK)
  have hk0 := (List.getElem?_eq_some_iff.1 hk).1
  have hwd := hgd.word wd (List.mem_of_getElem? hk)
  refine At.skipC ?_
  refine At.thenN ?_
  refine At.seq ?_
  refine At.block ?_
  refine tR ?_
  refine At.val (Val.indexRow (i := 7) K (by omega) Tryz.underlying36 Tryz.sizeOf3 rfl rfl rfl (by omega) (by rw [dkeys, List.length_map]; omega)) rfl rfl rfl ?_
  refine At.val (Val.loadRow (i := 7) (u := .int .i64 (8 * (k : Int))) Tryz.isAgg3 rfl rfl (by rw [List.getElem?_map, dkeys, List.getElem?_map, hkK]; rfl)) rfl rfl rfl ?_
  refine tA rfl rfl ?_
  refine tE ?_
  refine tR ?_
  refine tM rfl rfl ?_
  refine At.val (Val.nilCheck rfl) rfl rfl rfl ?_
  refine At.val (Val.field 1 rfl fo_47_1 rfl) rfl rfl rfl ?_
  refine At.val (Val.load (i := 2) Tryz.isAgg45 rfl rfl rfl) rfl rfl rfl ?_
  refine tM rfl rfl ?_
  refine At.val (Val.look (i := 4) Tryz.underlying45 Tryz.underlying3 Tryz.zeroValue111 rfl rfl rfl) rfl rfl rfl ?_
  rw [mk_at, mkN_some hk hn]
  refine At.val (Val.nilCheck rfl) rfl rfl rfl ?_
  refine At.val (Val.field 0 rfl fo_113_0 rfl) rfl rfl rfl ?_
  refine At.val (Val.loadDbt (i := 5) Tryz.isAgg44 rfl rfl hk hn rfl) rfl rfl rfl ?_
  refine At.callN (fun w hw => clone_w _ _ w (dbt_win hw (i := 5) rfl hk hn) (List.length_pos_iff.2 hn) (by omega)) Tryz.call84 rfl rfl (fun v3 => ?_)
  refine tA rfl rfl ?_
  refine At.nil ?_
  refine At.rowIs (i := 0) rfl (fun A4 c5 hv => ?_)
  subst hv
  refine At.thenN ?_
  refine At.region ?_
  refine tM rfl rfl ?_
  refine tM rfl rfl ?_
  refine tM rfl rfl ?_
  refine At.val (Val.nilCheck rfl) rfl rfl rfl ?_
  refine At.val (Val.field 0 rfl fo_47_0 rfl) rfl rfl rfl ?_
  refine At.val (Val.load (i := 3) Tryz.isAgg44 rfl rfl rfl) rfl rfl rfl ?_
  refine tM rfl rfl ?_
  refine At.val (Val.quoI rfl rfl (by omega) (by omega) (by decide)) rfl rfl rfl ?_
  rw [show 8 * (k : Int) / 8 = (k : Int) from by omega]
  refine At.val (Val.indexRow (i := 4) k (by omega) Tryz.underlying44 Tryz.sizeOf32 rfl rfl rfl (by omega) (by rw [olds_length]; omega)) rfl rfl rfl ?_
  refine At.val (Val.loadRow (i := 4) Tryz.isAgg32 rfl rfl (by rw [List.getElem?_map, olds_at hk]; rfl)) rfl rfl rfl ?_
  refine tM rfl rfl ?_
  refine At.val (Val.build (fun a ha => by simp only [List.map_toArray, List.map_cons, List.map_nil, ha.eval (x := (.tmp 25)) rfl, ha.eval (x := (.tmp 33)) rfl, ha.eval (x := (.tmp 34)) rfl] <;> rfl) (bld_84_0_1_2 _ _ _ _ _ )) rfl rfl rfl ?_
  refine At.buildSl (fun a ha => by simp only [List.map_toArray, List.map_cons, List.map_nil, ha.eval (x := (.tmp 35)) rfl]; try rfl) (bs_80_1 _ _ _ _ _ ) rfl (fun b6 => ?_)
  refine At.appendD1 (i := 3) (j := 0) (by_ := 40) (c := ((8 * (k : Int), wd.old, wd.news), (.slice A4 (wd.news.length) c5))) Tryz.underlying80 info_84 rfl rfl rfl rfl rfl rfl rfl rfl rfl rfl (by rw [hQl]; omega) (by rw [hQl]; omega) rfl (fun v7 => ?_)
  simp only [sc0, scS]
  refine At.drop 0 ?_
  simp only [ec0, ecS]
  refine At.starPush ?_
  refine tA rfl rfl ?_
  refine At.nil ?_
  refine At.blkN ?_
  refine At.thenN ?_
  refine At.region ?_
  first | refine At.val (Val.addI rfl rfl (by omega) (by omega)) rfl rfl rfl ?_ | refine At.val (Val.bin rfl rfl rfl) rfl rfl rfl ?_
  refine tM rfl rfl ?_
  refine tE ?_
  exact At.again (K + 1, Q ++ [((8 * (k : Int), wd.old, wd.news), (.slice A4 (wd.news.length) c5))], v7) ⟨(show K + 1 ≤ _ by omega), fst_snoc hs.2 hkK hk⟩ (by dsimp only; omega) (Sub.cons rfl (Sub.cons rfl (Sub.cons rfl (Sub.cons rfl (Sub.cons (congrArg (fun z => some (Value.int IntKind.i64 z)) (by omega)) Sub.nil))))) (by dsimp only; rw [newsR_snoc])
 ·skip
  try simp only [hasB, isSizeB, Bool.not_eq_true', Bool.not_eq_false', bne_iff_ne, ne_eq, bne_eq_false_iff_eq, beq_iff_eq, beq_eq_false_iff_ne, decide_eq_true_eq, decide_eq_false_iff_not, gt_iff_lt, ge_iff_le] at h2
  obtain rfl : K = (dk σ.ws).length := by omega
  refine At.exitC ?_
  refine At.thenX ?_
  refine At.thenX ?_
  refine At.blkX ?_
  refine At.thenN ?_
  refine tR ?_
  refine tM rfl rfl ?_
  refine tA rfl rfl ?_
  refine tE ?_
  refine At.retC ?_
  refine At.ret1 (.inl rfl) rfl rfl rfl (fun w hw => ?_)
  exact ⟨_, _, rfl, by rw [hs.2, List.take_of_length_le (by rw [dts_length]; exact Nat.le_refl _)], retDB hw⟩
end Go.Proofs.YthhkbbodhghmcaaGreatDoor
set_option linter.unusedVariables false
set_option linter.unusedSimpArgs false
namespace Go.Proofs.YthhkbbodhghmcaaGreatDoor
open Go Go.Wk
end Go.Proofs.YthhkbbodhghmcaaGreatDoor
set_option linter.unusedVariables false
set_option linter.unusedSimpArgs false
namespace Go.Proofs.YthhkbbodhghmcaaGreatDoor
open Go Go.Wk
theorem dkc_line {ws : List Wd} {k : Nat} : ∀ j, (∀ i, i < j → ∃ w, ws[k + i]? = some w ∧ w.news = []) → dkc ws (k + j) = dkc ws k
  | 0, _ => rfl
  | j + 1, h => by
    obtain ⟨w, h1, h2⟩ := h j (Nat.lt_succ_self j)
    rw [← Nat.add_assoc, dkc_no h1 h2, dkc_line j (fun i hi => h i (by omega))]
theorem Sim.noPuts {σ : Ds} {ρ : Rs} (h : Sim σ ρ) {k : Nat} {l : Rl} (hk : ρ.ls[k]? = some l) (hp : l.puts = []) {j : Nat} (hj : j < 8) : ∃ w, σ.ws[8 * k + j]? = some w ∧ w.news = [] := by
  obtain ⟨_, _, _, _, _, h6⟩ := h.line k l hk
  obtain ⟨v0, w, _, g2, A, B, C, hP, _, _, _, _, hn, _⟩ := h6 j hj
  refine ⟨w, g2, ?_⟩
  rw [hp] at hP
  have hP' : A ++ (B ++ C) = [] := hP.symm
  have := List.append_eq_nil_iff.1 hP'
  rw [hn, this.2]; rfl
theorem fst_step {ws : List Wd} {Q : List Dq} {K : Nat} {w : Wd} {v : Value} (h : Q.map Prod.fst = (dts ws).take (dkc ws K)) (hk : ws[K]? = some w) (hn : w.news ≠ []) : (Q ++ [((8 * (K : Int), w.old, w.news), v)]).map Prod.fst = (dts ws).take (dkc ws (K + 1)) := by
  rw [dkc_yes hk hn]; exact fst_snoc h (dkc_at hk hn) hk
theorem fst_lenK {ws : List Wd} {Q : List Dq} {K : Nat} (h : Q.map Prod.fst = (dts ws).take (dkc ws K)) : Q.length ≤ K := by
  have := congrArg List.length h
  rw [List.length_map, List.length_take] at this
  have := dkc_le ws K
  omega
theorem rdoubts_s (p : Nat) (γ : Rg) (ρ : Rs) (σ : Ds) (w : World) (hsim : Sim σ ρ) (hwl : σ.ws.length ≤ 65536) (hd : (RDev p γ ρ).holds w) :
    DbtK Tryz.prog 41 [.pointer (some ⟨p, 0, none⟩)] (RDev p γ ρ) (dts σ.ws) w := by
 refine enterRc hd Tryz.func41 rfl Tryz.ntmps41 rfl ?_
 obtain ⟨hQ, hg⟩ := RDev.facts hd
 have hln := hg.len
 have hps := hg.pos
 have hnw := hg.now
 have hsl := hsim.len
 have h8 := first8_of hQ hg
 have hQl : γ.Q.length = ρ.ls.length := by rw [← hQ, List.length_map]
 simp only [envOf]
 refine tR ?_
 refine tA rfl rfl ?_
 refine tE ?_
 refine tR ?_
 refine tA rfl rfl ?_
 refine At.nil ?_
 refine At.rowNil tDt 3 ?_
 refine At.starNil ?_
 refine At.bring 2 rfl ?_
 simp only [ec0, ecS]
 refine At.thenN ?_
 refine At.seq ?_
 refine tR ?_
 refine tA rfl rfl ?_
 refine tE ?_
 refine At.block ?_
 skip
 refine At.loop (σ := Nat × List Dq × Value) (fun s => s.1 ≤ ρ.ls.length ∧ s.2.1.map Prod.fst = (dts σ.ws).take (dkc σ.ws (8 * s.1))) (fun s => [(0, .pointer (some ⟨p, 0, none⟩)), (3, s.2.2), (4, .int .i64 (s.1 : Int))]) (fun s => [RDev p γ ρ, star (newsR s.2.1), drow s.2.2 s.2.1]) (fun s => ρ.ls.length - s.1) (0, [], .slice none 0 0) ⟨Nat.zero_le _, rfl⟩ (Sub.cons rfl (Sub.cons rfl (Sub.cons rfl Sub.nil))) (List.Perm.refl _) ?_
 intro s hs
 obtain ⟨i, Q, vd⟩ := s
 dsimp only at hs ⊢
 refine At.seq ?_
 refine At.seq ?_
 refine At.openS 0 rfl ?_
 simp only [rdevL, List.cons_append, List.nil_append, ec0, ecS]
 refine At.region ?_
 refine tM rfl rfl ?_
 refine tM rfl rfl ?_
 refine At.val (Val.nilCheck rfl) rfl rfl rfl ?_
 refine At.val (Val.field 0 rfl fo_50_0 rfl) rfl rfl rfl ?_
 refine At.val (Val.load (i := 0) Tryz.isAgg48 rfl rfl rfl) rfl rfl rfl ?_
 refine At.val (Val.lenRow (i := 1) Tryz.underlying48 rfl rfl) rfl rfl rfl ?_
 refine At.val (Val.bin rfl rfl rfl) rfl rfl rfl ?_
 refine At.nil ?_
 refine At.shutS (L := rdevL p γ ρ) ?_
 refine At.thenN ?_
 refine At.cond rfl (fun h1 => ?_) (fun h1 => ?_)
 ·skip
  try simp only [hasB, isSizeB, Bool.not_eq_true', Bool.not_eq_false', bne_iff_ne, ne_eq, bne_eq_false_iff_eq, beq_iff_eq, beq_eq_false_iff_ne, decide_eq_true_eq, decide_eq_false_iff_not, gt_iff_lt, ge_iff_le] at h1
  have hi : i < ρ.ls.length := by omega
  obtain ⟨q, hq⟩ : ∃ q, γ.Q[i]? = some q := ⟨_, List.getElem?_eq_getElem (by omega)⟩
  have hlq := line_at hQ hq
  refine At.skipC ?_
  refine At.thenN ?_
  refine At.seq ?_
  refine At.block ?_
  refine tR ?_
  refine tA rfl rfl ?_
  refine tE ?_
  refine At.block ?_
  skip
  refine At.loop (σ := Nat × List Dq × Value) (fun s => s.1 ≤ 8 ∧ s.2.1.map Prod.fst = (dts σ.ws).take (dkc σ.ws (8 * i + s.1))) (fun s => [(0, .pointer (some ⟨p, 0, none⟩)), (3, s.2.2), (4, .int .i64 (i : Int)), (5, .int .i64 (s.1 : Int))]) (fun s => [RDev p γ ρ, star (newsR s.2.1), drow s.2.2 s.2.1]) (fun s => 8 - s.1) (0, Q, vd) ⟨Nat.zero_le _, hs.2⟩ (Sub.cons rfl (Sub.cons rfl (Sub.cons rfl (Sub.cons rfl Sub.nil)))) (List.Perm.refl _) ?_
  intro s hs2
  obtain ⟨j, Q2, vd2⟩ := s
  dsimp only at hs2 ⊢
  have hQl2 := fst_lenK hs2.2
  refine At.seq ?_
  refine At.seq ?_
  refine At.openS 0 rfl ?_
  simp only [rdevL, List.cons_append, List.nil_append, ec0, ecS]
  refine At.region ?_
  refine tM rfl rfl ?_
  refine At.val (Val.bin rfl rfl rfl) rfl rfl rfl ?_
  refine At.weaken [(0, _), (3, _), (4, _), (5, _), (18, _)] (Sub.cons rfl (Sub.cons rfl (Sub.cons rfl (Sub.cons rfl (Sub.cons rfl Sub.nil))))) ?_
  refine At.boolMeet 12 30 (decide (j < 8 ∧ 0 < q.1.puts.length)) ?_ ?_
  ·skip
   simp only [List.take_succ_cons, List.take_zero]
   refine tM rfl rfl ?_
   refine At.split (t := 19) rfl (fun h2 => ?_) (fun h2 => ?_)
   ·skip
    try simp only [hasB, isSizeB, Bool.not_eq_true', Bool.not_eq_false', bne_iff_ne, ne_eq, bne_eq_false_iff_eq, beq_iff_eq, beq_eq_false_iff_ne, decide_eq_true_eq, decide_eq_false_iff_not, gt_iff_lt, ge_iff_le] at h2
    refine At.yes rfl rfl ?_
    refine tM rfl rfl ?_
    refine At.yes rfl rfl ?_
    refine At.val (Val.nilCheck rfl) rfl rfl rfl ?_
    refine At.yes rfl rfl ?_
    refine At.val (Val.field 0 rfl fo_50_0 rfl) rfl rfl rfl ?_
    refine At.yes rfl rfl ?_
    refine At.val (Val.load (i := 0) Tryz.isAgg48 rfl rfl rfl) rfl rfl rfl ?_
    refine At.yes rfl rfl ?_
    refine tM rfl rfl ?_
    refine At.yes rfl rfl ?_
    refine At.val (Val.indexRow (i := 1) (i * 10) (by omega) Tryz.underlying48 Tryz.sizeOf118 rfl rfl rfl (by omega) (by omega)) rfl rfl rfl ?_
    refine At.yes rfl rfl ?_
    refine At.val (Val.field ((i * 10 + 8)) rfl fo_118_1 rfl) rfl rfl rfl ?_
    refine At.yes rfl rfl ?_
    refine At.val (Val.loadRow (i := 1) Tryz.isAgg116 rfl rfl (lC_puts h8 hq)) rfl rfl rfl ?_
    refine At.yes rfl rfl ?_
    refine At.val (Val.lenO (fam_puts (i := 2) rfl hq) (by decide) Tryz.underlying116 rfl) rfl rfl rfl ?_
    refine At.yes rfl rfl ?_
    refine At.val (Val.bin rfl rfl rfl) rfl rfl rfl ?_
    refine At.val (Val.pickT rfl rfl) rfl rfl rfl ?_
    refine At.nil ?_
    exact At.boolEnd rfl (by apply Bool.eq_iff_iff.2; (simp only [decide_eq_true_eq, Bool.false_eq_true, false_iff, true_iff, gt_iff_lt, ge_iff_le]) <;> omega) (by repeat (first | exact Sub.nil | refine Sub.cons rfl ?_))
   ·skip
    try simp only [hasB, isSizeB, Bool.not_eq_true', Bool.not_eq_false', bne_iff_ne, ne_eq, bne_eq_false_iff_eq, beq_iff_eq, beq_eq_false_iff_ne, decide_eq_true_eq, decide_eq_false_iff_not, gt_iff_lt, ge_iff_le] at h2
    refine At.no rfl rfl rfl rfl ?_
    refine At.no rfl rfl rfl rfl ?_
    refine At.no rfl rfl rfl rfl ?_
    refine At.no rfl rfl rfl rfl ?_
    refine At.no rfl rfl rfl rfl ?_
    refine At.no rfl rfl rfl rfl ?_
    refine At.no rfl rfl rfl rfl ?_
    refine At.no rfl rfl rfl rfl ?_
    refine At.no rfl rfl rfl rfl ?_
    refine At.no rfl rfl rfl rfl ?_
    refine At.val (Val.pickF rfl rfl) rfl rfl rfl ?_
    refine At.nil ?_
    exact At.boolEnd rfl (by apply Bool.eq_iff_iff.2; (simp only [decide_eq_true_eq, Bool.false_eq_true, false_iff, true_iff, gt_iff_lt, ge_iff_le]) <;> omega) (by repeat (first | exact Sub.nil | refine Sub.cons rfl ?_))
  ·skip
   simp only [List.drop_succ_cons, List.drop_zero]
   refine At.nil ?_
   refine At.shutS (L := rdevL p γ ρ) ?_
   refine At.thenN ?_
   refine At.cond rfl (fun h3 => ?_) (fun h3 => ?_)
   ·skip
    try simp only [hasB, isSizeB, Bool.not_eq_true', Bool.not_eq_false', bne_iff_ne, ne_eq, bne_eq_false_iff_eq, beq_iff_eq, beq_eq_false_iff_ne, decide_eq_true_eq, decide_eq_false_iff_not, gt_iff_lt, ge_iff_le] at h3
    have hj : j < 8 := by omega
    obtain ⟨wd, hk⟩ : ∃ wd, σ.ws[8 * i + j]? = some wd := ⟨_, List.getElem?_eq_getElem (by omega)⟩
    refine At.skipC ?_
    refine At.thenN ?_
    refine At.seq ?_
    refine At.block ?_
    refine tR ?_
    refine tM rfl rfl ?_
    refine tM rfl rfl ?_
    first | refine At.val (Val.mulI rfl rfl (by omega) (by omega)) rfl rfl rfl ?_ | refine At.val (Val.bin rfl rfl rfl) rfl rfl rfl ?_
    refine tM rfl rfl ?_
    first | refine At.val (Val.mulI rfl rfl (by omega) (by omega)) rfl rfl rfl ?_ | refine At.val (Val.bin rfl rfl rfl) rfl rfl rfl ?_
    refine At.val (Val.addI rfl rfl (by omega) (by omega)) rfl rfl rfl ?_
    rw [show 64 * (i : Int) + 8 * (j : Int) = 8 * ((8 * i + j : Nat) : Int) from by omega]
    refine At.callRKT 0 rfl (fun w hw hr => rword_s _ _ _ σ (8 * i + j) wd w hsim hk hr) Tryz.call64 rfl rfl (fun v4 => ?_)
    refine tM rfl rfl ?_
    refine At.val (Val.extract rfl rfl) rfl rfl rfl ?_
    refine At.val (Val.extract rfl rfl) rfl rfl rfl ?_
    refine tA rfl rfl ?_
    refine tA rfl rfl ?_
    refine tE ?_
    refine tR ?_
    refine tM rfl rfl ?_
    refine At.val (Val.lenRow (i := 0) Tryz.underlying44 rfl rfl) rfl rfl rfl ?_
    refine At.val (Val.bin rfl rfl rfl) rfl rfl rfl ?_
    refine tE ?_
    refine At.cond rfl (fun h5 => ?_) (fun h5 => ?_)
    ·skip
     try simp only [hasB, isSizeB, Bool.not_eq_true', Bool.not_eq_false', bne_iff_ne, ne_eq, bne_eq_false_iff_eq, beq_iff_eq, beq_eq_false_iff_ne, decide_eq_true_eq, decide_eq_false_iff_not, gt_iff_lt, ge_iff_le] at h5
     have hn : wd.news ≠ [] := List.length_pos_iff.1 (by omega)
     refine At.rowIs (i := 0) rfl (fun A6 c7 hv => ?_)
     subst hv
     refine At.region ?_
     refine tM rfl rfl ?_
     refine tM rfl rfl ?_
     first | refine At.val (Val.mulI rfl rfl (by omega) (by omega)) rfl rfl rfl ?_ | refine At.val (Val.bin rfl rfl rfl) rfl rfl rfl ?_
     refine tM rfl rfl ?_
     first | refine At.val (Val.mulI rfl rfl (by omega) (by omega)) rfl rfl rfl ?_ | refine At.val (Val.bin rfl rfl rfl) rfl rfl rfl ?_
     refine At.val (Val.addI rfl rfl (by omega) (by omega)) rfl rfl rfl ?_
     rw [show 64 * (i : Int) + 8 * (j : Int) = 8 * ((8 * i + j : Nat) : Int) from by omega]
     refine tM rfl rfl ?_
     refine tM rfl rfl ?_
     refine At.val (Val.build (fun a ha => by simp only [List.map_toArray, List.map_cons, List.map_nil, ha.eval (x := (.tmp 51)) rfl, ha.eval (x := (.tmp 52)) rfl, ha.eval (x := (.tmp 53)) rfl] <;> rfl) (bld_84_0_1_2 _ _ _ _ _ )) rfl rfl rfl ?_
     refine At.buildSl (fun a ha => by simp only [List.map_toArray, List.map_cons, List.map_nil, ha.eval (x := (.tmp 54)) rfl]; try rfl) (bs_80_1 _ _ _ _ _ ) rfl (fun b8 => ?_)
     refine At.appendD1 (i := 4) (j := 0) (by_ := 40) (c := ((8 * ((8 * i + j : Nat) : Int), wd.old, wd.news), (.slice A6 (wd.news.length) c7))) Tryz.underlying80 info_84 rfl rfl rfl rfl rfl rfl rfl rfl rfl rfl (by omega) (by omega) rfl (fun v9 => ?_)
     simp only [sc0, scS]
     refine At.drop 0 ?_
     simp only [ec0, ecS]
     refine At.bring 2 rfl ?_
     simp only [ec0, ecS]
     refine At.bring 1 rfl ?_
     simp only [ec0, ecS]
     refine At.starPush ?_
     refine At.bring 1 rfl ?_
     simp only [ec0, ecS]
     refine tA rfl rfl ?_
     refine At.nil ?_
     refine At.blkN ?_
     refine At.thenN ?_
     refine At.region ?_
     refine tM rfl rfl ?_
     first | refine At.val (Val.addI rfl rfl (by omega) (by omega)) rfl rfl rfl ?_ | refine At.val (Val.bin rfl rfl rfl) rfl rfl rfl ?_
     refine tA rfl rfl ?_
     refine tE ?_
     exact At.again (j + 1, Q2 ++ [((8 * ((8 * i + j : Nat) : Int), wd.old, wd.news), (.slice A6 (wd.news.length) c7))], v9) ⟨(show j + 1 ≤ 8 by omega), fst_step hs2.2 hk hn⟩ (by dsimp only; omega) (Sub.cons rfl (Sub.cons rfl (Sub.cons rfl (Sub.cons (congrArg (fun z => some (Value.int IntKind.i64 z)) (by omega)) Sub.nil)))) (by dsimp only; rw [newsR_snoc]; exact List.Perm.refl _)
    ·skip
     try simp only [hasB, isSizeB, Bool.not_eq_true', Bool.not_eq_false', bne_iff_ne, ne_eq, bne_eq_false_iff_eq, beq_iff_eq, beq_eq_false_iff_ne, decide_eq_true_eq, decide_eq_false_iff_not, gt_iff_lt, ge_iff_le] at h5
     have hn : wd.news = [] := List.eq_nil_of_length_eq_zero (by omega)
     refine At.drop 0 ?_
     simp only [ec0, ecS]
     refine At.skipC ?_
     refine At.blkN ?_
     refine At.thenN ?_
     refine At.region ?_
     refine tM rfl rfl ?_
     first | refine At.val (Val.addI rfl rfl (by omega) (by omega)) rfl rfl rfl ?_ | refine At.val (Val.bin rfl rfl rfl) rfl rfl rfl ?_
     refine tA rfl rfl ?_
     refine tE ?_
     exact At.again (j + 1, Q2, vd2) ⟨(show j + 1 ≤ 8 by omega), (by show _ = (dts σ.ws).take (dkc σ.ws (8 * i + j + 1)); rw [dkc_no hk hn]; exact hs2.2)⟩ (by dsimp only; omega) (Sub.cons rfl (Sub.cons rfl (Sub.cons rfl (Sub.cons (congrArg (fun z => some (Value.int IntKind.i64 z)) (by omega)) Sub.nil)))) (List.Perm.refl _)
   ·skip
    try simp only [hasB, isSizeB, Bool.not_eq_true', Bool.not_eq_false', bne_iff_ne, ne_eq, bne_eq_false_iff_eq, beq_iff_eq, beq_eq_false_iff_ne, decide_eq_true_eq, decide_eq_false_iff_not, gt_iff_lt, ge_iff_le] at h3
    have hdone : dkc σ.ws (8 * i + j) = dkc σ.ws (8 * i + 8) := by by_cases h8' : j = 8; rw [h8']; exact ((dkc_line (k := 8 * i) 8 (fun m hm => hsim.noPuts hlq (List.eq_nil_of_length_eq_zero (by omega)) hm)).trans (dkc_line (k := 8 * i) j (fun m hm => hsim.noPuts hlq (List.eq_nil_of_length_eq_zero (by omega)) (by omega))).symm).symm
    refine At.exitC ?_
    refine At.thenX ?_
    refine At.thenX ?_
    refine At.blkX ?_
    refine At.blkN ?_
    refine At.thenN ?_
    refine At.region ?_
    refine tM rfl rfl ?_
    first | refine At.val (Val.addI rfl rfl (by omega) (by omega)) rfl rfl rfl ?_ | refine At.val (Val.bin rfl rfl rfl) rfl rfl rfl ?_
    refine tA rfl rfl ?_
    refine tE ?_
    exact At.again (i + 1, Q2, vd2) ⟨(show i + 1 ≤ _ by omega), (by rw [show 8 * (i + 1) = 8 * i + 8 by omega, ← hdone]; exact hs2.2)⟩ (by dsimp only; omega) (Sub.cons rfl (Sub.cons rfl (Sub.cons (congrArg (fun z => some (Value.int IntKind.i64 z)) (by omega)) Sub.nil))) (List.Perm.refl _)
 ·skip
  try simp only [hasB, isSizeB, Bool.not_eq_true', Bool.not_eq_false', bne_iff_ne, ne_eq, bne_eq_false_iff_eq, beq_iff_eq, beq_eq_false_iff_ne, decide_eq_true_eq, decide_eq_false_iff_not, gt_iff_lt, ge_iff_le] at h1
  obtain rfl : i = ρ.ls.length := by omega
  refine At.exitC ?_
  refine At.thenX ?_
  refine At.thenX ?_
  refine At.blkX ?_
  refine At.thenN ?_
  refine tR ?_
  refine tM rfl rfl ?_
  refine tA rfl rfl ?_
  refine tE ?_
  refine At.retC ?_
  refine At.ret1 (.inl rfl) rfl rfl rfl (fun w hw => ?_)
  rw [← hsl, dkc_all, List.take_of_length_le (by rw [dts_length]; exact Nat.le_refl _)] at hs
  exact ⟨_, _, rfl, hs.2, (hw.perm (List.perm_middle (l₁ := [_, _]) (l₂ := [])).symm).toDbt⟩
end Go.Proofs.YthhkbbodhghmcaaGreatDoor
set_option linter.unusedVariables false
set_option linter.unusedSimpArgs false
namespace Go.Proofs.YthhkbbodhghmcaaGreatDoor
open Go Go.Wk
theorem linesE_rest : ∀ (c l : Nat) (σ : Ds), (linesE l σ c).2.ws.length = σ.ws.length ∧ (linesE l σ c).2.steps ≤ σ.steps + c ∧ (σ.armed = false → (linesE l σ c).1 = 0 ∧ (linesE l σ c).2.armed = false)
  | 0, l, σ => ⟨rfl, Nat.le_refl _, fun h => ⟨rfl, h⟩⟩
  | c + 1, l, σ => by
    cases hd : deadB σ with
    | true =>
      rw [linesE_dead hd]
      exact ⟨rfl, Nat.le_add_right _ _, fun ha => by rw [dead_of ha] at hd; cases hd⟩
    | false =>
      rw [linesE_live hd]
      obtain ⟨h1, h2, h3⟩ := lineD_rest σ l
      obtain ⟨g1, g2, g3⟩ := linesE_rest c (l + 1) (lineD σ l)
      exact ⟨g1.trans h3, by omega, fun ha => g3 (h2.trans ha)⟩
theorem upd_toD {P : Program} {f : FuncId} {vs : List Value} {v : Value} {p : Nat} {γ : Gh} {σ : Ds} {w : World} (h : Upd P f vs (Dev p γ σ) v (Dev p γ σ) w) : DevU P f vs p γ σ v σ w := h.mono fun e w' ⟨he, hr⟩ => ⟨γ, he, hr⟩
def storeT (σ : Ds) (a : Int) (x : BitVec 64) : Int × Ds := if placeE σ a ≠ 0 then (placeE σ a, σ) else if deadB σ = true then (13, σ) else (0, storeD σ (a / 8).toNat x)
theorem store_t (p : Nat) (γ : Gh) (σ : Ds) (a : Int) (x : BitVec 64) (w : World) (hs : σ.steps + 65536 ≤ 1099511627776) (hd : (Dev p γ σ).holds w) : DevU Tryz.prog 25 [.pointer (some ⟨p, 0, none⟩), .int .i64 a, b64 x] p γ σ (.int .i64 (storeT σ a x).1) (storeT σ a x).2 w := by
  unfold storeT
  split
  · rename_i h; exact upd_toD (store_no p γ σ a x w h hd)
  · rename_i h
    have h' : placeE σ a = 0 := Decidable.not_not.1 h
    cases hdb : deadB σ with
    | true => rw [if_pos rfl]; exact upd_toD (store_0 p γ σ a x w h' hdb hd)
    | false =>
      rw [if_neg (by simp)]
      obtain ⟨K, rfl, hK⟩ := place_inv h'
      rw [show (8 * (K : Int) / 8).toNat = K by omega, storeD_some (List.getElem?_eq_getElem hK)]
      exact store_d p γ σ K _ x w (List.getElem?_eq_getElem hK) (by omega) hdb hd
theorem rstore_t (p : Nat) (γ : Rg) (ρ : Rs) (σ : Ds) (a : Int) (x : BitVec 64) (w : World) (hsim : Sim σ ρ) (hs : σ.steps + 65536 ≤ 1099511627776) (hd : (RDev p γ ρ).holds w) : RDevP Tryz.prog 26 [.pointer (some ⟨p, 0, none⟩), .int .i64 a, b64 x] p γ ρ (.int .i64 (storeT σ a x).1) (Sim (storeT σ a x).2) w := by
  unfold storeT
  split
  · rename_i h; rw [← hsim.wrong] at h ⊢; exact upd_toP (rstore_no p γ ρ a x w h hd) hsim
  · rename_i h
    have h' : placeE σ a = 0 := Decidable.not_not.1 h
    cases hdb : deadB σ with
    | true => rw [if_pos rfl]; exact upd_toP (rstore_0 p γ ρ a x w (by rw [hsim.wrong]; exact h') (hsim.isdead hdb) hd) hsim
    | false =>
      rw [if_neg (by simp)]
      obtain ⟨K, rfl, hK⟩ := place_inv h'
      rw [show (8 * (K : Int) / 8).toNat = K by omega]
      exact rstore_s p γ ρ σ K x w hsim hK (by omega) hdb hd
def fenceT (σ : Ds) : Int × Ds := if deadB σ = true then (13, σ) else (0, fenceD (stepD σ))
theorem fence_t (p : Nat) (γ : Gh) (σ : Ds) (w : World) (hs : σ.steps + 65536 ≤ 1099511627776) (hd : (Dev p γ σ).holds w) : DevU Tryz.prog 29 [.pointer (some ⟨p, 0, none⟩)] p γ σ (.int .i64 (fenceT σ).1) (fenceT σ).2 w := by
  unfold fenceT
  cases hdb : deadB σ with
  | true => rw [if_pos rfl]; exact upd_toD (fence_0 p γ σ w hdb hd)
  | false => rw [if_neg (by simp)]; exact fence_d p γ σ w (by omega) hdb hd
theorem rfence_t (p : Nat) (γ : Rg) (ρ : Rs) (σ : Ds) (w : World) (hsim : Sim σ ρ) (hs : σ.steps + 65536 ≤ 1099511627776) (hd : (RDev p γ ρ).holds w) : RDevP Tryz.prog 32 [.pointer (some ⟨p, 0, none⟩)] p γ ρ (.int .i64 (fenceT σ).1) (Sim (fenceT σ).2) w := by
  unfold fenceT
  cases hdb : deadB σ with
  | true => rw [if_pos rfl]; exact upd_toP (rfence_0 p γ ρ w (hsim.isdead hdb) hd) hsim
  | false => rw [if_neg (by simp)]; exact rfence_s p γ ρ σ w hsim (by omega) hdb hd
def armT (σ : Ds) (m : Int) : Int × Ds := if m < 0 then (14, σ) else if deadB σ = true then (13, σ) else (0, armD σ m.toNat)
theorem arm_t (p : Nat) (γ : Gh) (σ : Ds) (m : Int) (w : World) (hm : m ≤ 9223372036854775807) (hd : (Dev p γ σ).holds w) : DevU Tryz.prog 33 [.pointer (some ⟨p, 0, none⟩), .int .i64 m] p γ σ (.int .i64 (armT σ m).1) (armT σ m).2 w := by
  unfold armT
  split
  · rename_i h; exact upd_toD (arm_neg p γ σ m w h hd)
  · rename_i h
    obtain ⟨k, rfl⟩ : ∃ k : Nat, m = (k : Int) := ⟨m.toNat, by omega⟩
    cases hdb : deadB σ with
    | true => rw [if_pos rfl]; exact upd_toD (arm_dead p γ σ k w (by omega) hdb hd)
    | false => rw [if_neg (by simp), Int.toNat_natCast]; exact arm_d p γ σ k w (by omega) hdb hd
theorem rarm_t (p : Nat) (γ : Rg) (ρ : Rs) (σ : Ds) (m : Int) (w : World) (hsim : Sim σ ρ) (hm : m ≤ 9223372036854775807) (hd : (RDev p γ ρ).holds w) : RDevP Tryz.prog 34 [.pointer (some ⟨p, 0, none⟩), .int .i64 m] p γ ρ (.int .i64 (armT σ m).1) (Sim (armT σ m).2) w := by
  unfold armT
  split
  · rename_i h; exact upd_toP (rarm_neg p γ ρ m w h hd) hsim
  · rename_i h
    obtain ⟨k, rfl⟩ : ∃ k : Nat, m = (k : Int) := ⟨m.toNat, by omega⟩
    cases hdb : deadB σ with
    | true => rw [if_pos rfl]; exact upd_toP (rarm_dead p γ ρ k w (by omega) (hsim.isdead hdb) hd) hsim
    | false => rw [if_neg (by simp), Int.toNat_natCast]; exact rarm_s p γ ρ σ k w hsim (by omega) hdb hd
theorem has_bd {σ : Ds} {a n : Int} (h : hasB σ a n = true) : 0 ≤ a ∧ 0 ≤ n ∧ a + n ≤ 8 * (σ.ws.length : Int) := by unfold hasB at h; rw [decide_eq_true_eq] at h; omega
def flushAllT (σ : Ds) (a n : Int) : Int × Ds := if hasB σ a n = false then (11, σ) else linesE (a.toNat / 64) σ (cntL a.toNat n.toNat)
theorem cntL_le {a n W : Nat} (h : a + n ≤ 8 * W) : cntL a n ≤ W + 1 := by unfold cntL; split <;> omega
theorem flushAll_t (p : Nat) (γ : Gh) (σ : Ds) (a n : Int) (w : World) (hs : σ.steps + 65537 ≤ 1099511627776) (hd : (Dev p γ σ).holds w) : DevU Tryz.prog 27 [.pointer (some ⟨p, 0, none⟩), .int .i64 a, .int .i64 n] p γ σ (.int .i64 (flushAllT σ a n).1) (flushAllT σ a n).2 w := by
  have hg := (Dev.good hd).len
  unfold flushAllT
  cases hh : hasB σ a n with
  | false => rw [if_pos rfl]; exact upd_toD (flushAll_no p γ σ a n w hh hd)
  | true =>
    rw [if_neg (by simp)]
    obtain ⟨h0, h2, h1⟩ := has_bd hh
    have hc := cntL_le (a := a.toNat) (n := n.toNat) (W := σ.ws.length) (by omega)
    have := flushAll_d p γ σ a.toNat n.toNat (cntL a.toNat n.toNat) w (by omega) (cntL_P _ _) (by omega) hd
    rwa [show ((a.toNat : Nat) : Int) = a by omega, show ((n.toNat : Nat) : Int) = n by omega] at this
theorem rflushAll_t (p : Nat) (γ : Rg) (ρ : Rs) (σ : Ds) (a n : Int) (w : World) (hsim : Sim σ ρ) (hs : σ.steps + 65537 ≤ 1099511627776) (hwl : σ.ws.length ≤ 65536) (hd : (RDev p γ ρ).holds w) : RDevP Tryz.prog 30 [.pointer (some ⟨p, 0, none⟩), .int .i64 a, .int .i64 n] p γ ρ (.int .i64 (flushAllT σ a n).1) (Sim (flushAllT σ a n).2) w := by
  unfold flushAllT
  cases hh : hasB σ a n with
  | false => rw [if_pos rfl]; exact upd_toP (rflushAll_no p γ ρ a n w (by rw [hsim.has]; exact hh) hd) hsim
  | true =>
    rw [if_neg (by simp)]
    obtain ⟨h0, h2, h1⟩ := has_bd hh
    have hc := cntL_le (a := a.toNat) (n := n.toNat) (W := σ.ws.length) (by omega)
    have := rflushAll_s p γ ρ σ a.toNat n.toNat (cntL a.toNat n.toNat) w hsim hwl (by omega) (cntL_P _ _) (by omega) hd
    rwa [show ((a.toNat : Nat) : Int) = a by omega, show ((n.toNat : Nat) : Int) = n by omega] at this
/-! ### what a step leaves -/
def Goes (σ : Ds) (r : Int × Ds) : Prop := r.2.ws.length = σ.ws.length ∧ r.2.steps ≤ σ.steps + 65537
theorem goes_same (σ : Ds) (e : Int) : Goes σ (e, σ) := ⟨rfl, Nat.le_add_right _ _⟩
theorem goes_store (σ : Ds) (a : Int) (x : BitVec 64) : Goes σ (storeT σ a x) := by
  unfold storeT
  split
  · exact goes_same _ _
  · split
    · exact goes_same _ _
    · rename_i h _
      obtain ⟨K, rfl, hK⟩ := place_inv (Decidable.not_not.1 h)
      rw [show (8 * (K : Int) / 8).toNat = K by omega]
      obtain ⟨h1, _, h3⟩ := storeD_rest (σ := σ) x hK
      exact ⟨h3, by show (storeD σ K x).steps ≤ _; omega⟩
theorem goes_fence (σ : Ds) : Goes σ (fenceT σ) := by
  unfold fenceT
  split
  · exact goes_same _ _
  · exact ⟨by show (List.map _ _).length = _; rw [List.length_map]; rfl, by show σ.steps + 1 ≤ _; omega⟩
theorem goes_arm (σ : Ds) (m : Int) : Goes σ (armT σ m) := by
  unfold armT
  split
  · exact goes_same _ _
  · split
    · exact goes_same _ _
    · exact ⟨rfl, Nat.le_add_right _ _⟩
theorem goes_flushAll {σ : Ds} (a n : Int) (hwl : σ.ws.length ≤ 65536) : Goes σ (flushAllT σ a n) := by
  unfold flushAllT
  cases hh : hasB σ a n with
  | false => rw [if_pos rfl]; exact goes_same _ _
  | true =>
    rw [if_neg (by simp)]
    obtain ⟨h0, h2, h1⟩ := has_bd hh
    have hc := cntL_le (a := a.toNat) (n := n.toNat) (W := σ.ws.length) (by omega)
    obtain ⟨g1, g2, _⟩ := linesE_rest (cntL a.toNat n.toNat) (a.toNat / 64) σ
    exact ⟨g1, by omega⟩
end Go.Proofs.YthhkbbodhghmcaaGreatDoor
set_option linter.unusedVariables false
set_option linter.unusedSimpArgs false
namespace Go.Proofs.YthhkbbodhghmcaaGreatDoor
open Go Go.Wk
end Go.Proofs.YthhkbbodhghmcaaGreatDoor
set_option linter.unusedVariables false
set_option linter.unusedSimpArgs false
namespace Go.Proofs.YthhkbbodhghmcaaGreatDoor
open Go Go.Wk
theorem dts_news {ws : List Wd} {k : Nat} {x : Dt} (h : (dts ws)[k]? = some x) : ∃ w ∈ ws, x.2.2 = w.news := by
  unfold dts at h
  rw [List.getElem?_map] at h
  cases hk : (dk ws)[k]? with
  | none => rw [hk] at h; cases h
  | some j =>
    rw [hk] at h
    obtain rfl := Option.some.inj h
    obtain ⟨w, hw, _⟩ := mem_dk.1 (List.mem_of_getElem? hk)
    rw [dtsAt_some hw]
    exact ⟨w, List.mem_of_getElem? hw, rfl⟩
theorem fst_at {Q : List Dq} {D : List Dt} {k : Nat} {x : Dq} (h : Q.map Prod.fst = D) (hx : Q[k]? = some x) : D[k]? = some x.1 := by
  subst h; rw [List.getElem?_map, hx]; rfl
end Go.Proofs.YthhkbbodhghmcaaGreatDoor
set_option linter.unusedVariables false
set_option linter.unusedSimpArgs false
namespace Go.Proofs.YthhkbbodhghmcaaGreatDoor
open Go Go.Wk
/-- A list of old stands in no resource that is held. -/
theorem Rep.offOld {w0 w : World} {S : Nat → Prop} {H : List Res} {r : Res} {v : Value} {sz n : Nat} {xs : List Value} (hw : Rep w0 S H w) (h : Rd w0 v sz n xs) (ho : Off v xs S) (hr : r ∈ H) : Off v xs (feet [r]) := fun hne b o s n' c hv ⟨q, hq, hb⟩ => by
  rw [List.mem_singleton.1 hq] at hb
  obtain ⟨A, c', rfl, h2, _⟩ := h
  have hl : 0 < xs.length := List.length_pos_iff.2 hne
  obtain ⟨b', o', e, hc⟩ := h2 0 _ (List.getElem?_eq_getElem hl)
  simp only [Value.slice.injEq] at hv
  rw [hv.1] at e
  simp only [Option.some.injEq, Addr.mk.injEq] at e
  obtain ⟨rfl, _, _⟩ := e
  have hlt := block_lt_of_cell hc
  rcases hw.mine r hr _ hb with h3 | h3
  · simp only at *; omega
  · exact ho hne _ _ _ _ _ (by rw [hv.1]) h3
theorem dts_bd {σ : Ds} (h : Dgood σ) {k : Nat} {x : Dt} (hx : (dts σ.ws)[k]? = some x) : x.2.2.length ≤ 1099511627776 := by
  obtain ⟨w, hw, e⟩ := dts_news hx
  have h1 := (h.word w hw).2
  have h2 := h.steps
  rw [e]; omega
end Go.Proofs.YthhkbbodhghmcaaGreatDoor
