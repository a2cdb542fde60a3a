/- The document's device: stores, flushes, a new one. -/
import Derived.Test.YtkpbpeajkfgfiaaR2
set_option linter.unusedVariables false
set_option linter.unusedSimpArgs false
namespace Go.Proofs.Ytkpbpeajkfgfiaa
open Go Go.Wk

def flushL (ρ : Rs) (k : Nat) (l : Rl) : Rs := { stepR ρ with ls := ρ.ls.set k { l with fl := l.fl ++ [ρ.now + 1] } }
def storeL (ρ : Rs) (k j : Nat) (l : Rl) (x : BitVec 64) : Rs := { stepR ρ with ls := ρ.ls.set k { l with puts := l.puts ++ [(j, x, ρ.now + 1)] } }
theorem mem_setR {ls : List Rl} {k : Nat} {a l : Rl} (h : l ∈ ls.set k a) : l = a ∨ l ∈ ls := by
  rcases List.mem_or_eq_of_mem_set h with h | h
  · exact .inr h
  · exact .inl h
theorem flushL_good {ρ : Rs} {k : Nat} {l : Rl} (h : Rgood ρ) (hk : ρ.ls[k]? = some l) (hs : ρ.now + 1 ≤ 1099511627776) : Rgood (flushL ρ k l) := by
  have h1 := stepR_good h hs
  obtain ⟨g1, g2, g3, g4, g5⟩ := h1.line l (List.mem_of_getElem? hk)
  have g3' := (h.line l (List.mem_of_getElem? hk)).2.2.1
  refine ⟨by simpa [flushL] using h.pos, by simpa [flushL] using h.len, hs, h1.fen, h1.left, fun m hm => ?_⟩
  rcases mem_setR hm with rfl | hm
  · refine ⟨g1, g2, ?_, g4, fun t ht => ?_⟩
    · show (l.fl ++ [ρ.now + 1]).length ≤ ρ.now + 1
      rw [List.length_append, List.length_singleton]; omega
    · rcases List.mem_append.1 ht with ht | ht
      · exact g5 t ht
      · rw [List.mem_singleton.1 ht]; exact Nat.le_refl _
  · exact h1.line m hm
theorem storeL_good {ρ : Rs} {k j : Nat} {l : Rl} {x : BitVec 64} (h : Rgood ρ) (hk : ρ.ls[k]? = some l) (hj : j < 8) (hs : ρ.now + 1 ≤ 1099511627776) : Rgood (storeL ρ k j l x) := by
  have h1 := stepR_good h hs
  obtain ⟨g1, g2, g3, g4, g5⟩ := h1.line l (List.mem_of_getElem? hk)
  have g2' := (h.line l (List.mem_of_getElem? hk)).2.1
  refine ⟨by simpa [storeL] using h.pos, by simpa [storeL] using h.len, hs, h1.fen, h1.left, fun m hm => ?_⟩
  rcases mem_setR hm with rfl | hm
  · refine ⟨g1, ?_, g3, fun c hc => ?_, g5⟩
    · show (l.puts ++ [(j, x, ρ.now + 1)]).length ≤ ρ.now + 1
      rw [List.length_append, List.length_singleton]; omega
    · rcases List.mem_append.1 hc with hc | hc
      · exact g4 c hc
      · rw [List.mem_singleton.1 hc]; exact ⟨hj, Nat.le_refl _⟩
  · exact h1.line m hm
theorem wrong_at {ρ : Rs} {K : Nat} (h : K < 8 * ρ.ls.length) : wrongE ρ (8 * (K : Int)) = 0 := by unfold wrongE; rw [if_pos (by omega), if_pos (by omega)]
def zL : Rl := ⟨List.replicate 8 0, [], []⟩
def zeroR (M : Nat) : Rs := ⟨List.replicate M zL, 0, 0, -1⟩
def nilQ (ls : List Rl) : List Lq := ls.map fun l => (l, .slice none 0 0, .slice none 0 0)
theorem nilQ_fst (ls : List Rl) : (nilQ ls).map Prod.fst = ls := by unfold nilQ; rw [List.map_map]; exact List.map_id _
theorem nilQ_at {ls : List Rl} {k : Nat} {q : Lq} (h : (nilQ ls)[k]? = some q) : ∃ l, ls[k]? = some l ∧ q = (l, .slice none 0 0, .slice none 0 0) := by
  unfold nilQ at h
  rw [List.getElem?_map] at h
  cases hl : ls[k]? with
  | none => rw [hl] at h; cases h
  | some l => rw [hl] at h; exact ⟨l, rfl, (Option.some.inj h).symm⟩
theorem nil_foot {l : Rl} (hp : l.puts = []) (hf : l.fl = []) {b : Nat} (h : (star [purow (.slice none 0 0) l.puts, flrow (.slice none 0 0) l.fl]).foot b) : False := by
  obtain ⟨r, hr, hb⟩ := h
  simp only [List.mem_cons, List.not_mem_nil, or_false] at hr
  rcases hr with rfl | rfl
  · simp [purow, rowR, Value.ownBlock] at hb
  · simp [flrow, rowR, Value.ownBlock] at hb
/-- Lines without stores and flushes own nothing. -/
theorem Rep.famNone {w0 w : World} {S : Nat → Prop} {H : List Res} {ls : List Rl} (hn : ∀ l ∈ ls, l.puts = [] ∧ l.fl = []) (h : Rep w0 S H w) : Rep w0 S (fam (lI (nilQ ls)) :: H) w := by
  have key : ∀ k r, lI (nilQ ls) k = some r → ∃ l, l ∈ ls ∧ r = star [purow (.slice none 0 0) l.puts, flrow (.slice none 0 0) l.fl] := by
    intro k r hr
    unfold lI at hr
    cases hq : (nilQ ls)[k]? with
    | none => rw [hq] at hr; cases hr
    | some q =>
      rw [hq] at hr
      obtain ⟨l, hl, rfl⟩ := nilQ_at hq
      exact ⟨l, List.mem_of_getElem? hl, (Option.some.inj hr).symm⟩
  have hfoot : ∀ b, (fam (lI (nilQ ls))).foot b → False := fun b ⟨k, r, hr, hb⟩ => by
    obtain ⟨l, hl, rfl⟩ := key k r hr
    exact nil_foot (hn l hl).1 (hn l hl).2 hb
  refine ⟨List.pairwise_cons.2 ⟨fun s _ b hb _ => hfoot b hb, h.sep⟩, fun r hr => ?_, fun r hr b hb => ?_, h.mod⟩
  · rcases List.mem_cons.1 hr with rfl | h1
    · refine ⟨fun k r hr => ?_, fun k k' r r' hr _ _ b hb _ => ?_⟩
      · obtain ⟨l, hl, rfl⟩ := key k r hr
        obtain ⟨h1, h2⟩ := hn l hl
        rw [h1, h2]
        refine ⟨by refine List.pairwise_cons.2 ⟨fun s _ b hb _ => ?_, by simp⟩; simp [purow, rowR, Value.ownBlock] at hb, fun r hr => ?_⟩
        simp only [List.mem_cons, List.not_mem_nil, or_false] at hr
        rcases hr with rfl | rfl
        · exact World.ownsRow_nil w 0 tPu 3
        · exact World.ownsRow_nil w 0 tI 1
      · obtain ⟨l, hl, rfl⟩ := key k r hr
        exact (nil_foot (hn l hl).1 (hn l hl).2 hb).elim
    · exact h.all r h1
  · rcases List.mem_cons.1 hr with rfl | h1
    · exact (hfoot b hb).elim
    · exact h.mine r h1 b hb
theorem At.famNone {Γ : Ctx} {E : Env} {H : List Res} {φ : Act → World → Prop} {ls : List Rl} (hn : ∀ l ∈ ls, l.puts = [] ∧ l.fl = []) (k : At Γ E (fam (lI (nilQ ls)) :: H) φ) : At Γ E H φ := fun a w ha hw => k a w ha (Rep.famNone hn hw)
abbrev zCells : List Value := [.int .u64 0, .int .u64 0, .int .u64 0, .int .u64 0, .int .u64 0, .int .u64 0, .int .u64 0, .int .u64 0, .slice none 0 0, .slice none 0 0]
theorem lC_zero : ∀ (M : Nat), lC (nilQ (List.replicate M zL)) = (List.replicate M zCells).flatten
  | 0 => rfl
  | M + 1 => by
    have := lC_zero M
    rw [List.replicate_succ, List.replicate_succ, List.flatten_cons, ← this]; rfl
theorem made_lines (M : Nat) : (madeCells zCells.toArray (M * 10)).toList = lC (nilQ (List.replicate M zL)) := by
  rw [lC_zero]
  apply List.ext_getElem?
  intro i
  have hl : (madeCells zCells.toArray (M * 10)).toList.length = M * 10 := by simp [madeCells]
  have hl2 : (List.replicate M zCells).flatten.length = M * 10 := by simp [List.length_flatten, List.map_replicate, List.sum_replicate_nat]
  rcases Nat.lt_or_ge i (M * 10) with h | h
  · rw [List.getElem?_eq_getElem (by rw [hl]; exact h)]
    have e1 : (madeCells zCells.toArray (M * 10)).toList[i]'(by rw [hl]; exact h) = (zCells[i % 10]?).getD undef := by
      simp [madeCells, List.getElem?_eq_getElem (show i % 10 < zCells.length from Nat.mod_lt _ (by decide))]
    rw [e1]
    have key : ∀ (M i : Nat), i < M * 10 → (List.replicate M zCells).flatten[i]? = zCells[i % 10]? := by
      intro M
      induction M with
      | zero => intro i hi; omega
      | succ M ih =>
        intro i hi
        rw [List.replicate_succ, List.flatten_cons]
        rcases Nat.lt_or_ge i 10 with h1 | h1
        · rw [List.getElem?_append_left (by simpa using h1), Nat.mod_eq_of_lt h1]
        · rw [List.getElem?_append_right (by simpa using h1), show zCells.length = 10 from rfl, ih (i - 10) (by omega), show (i - 10) % 10 = i % 10 by omega]
    rw [key M i h]
    have h10 : i % 10 < zCells.length := Nat.mod_lt _ (by decide)
    rw [List.getElem?_eq_getElem h10]; rfl
  · rw [List.getElem?_eq_none (by rw [hl]; exact h), List.getElem?_eq_none (by rw [hl2]; exact h)]
theorem zeroR_good {M : Nat} (h0 : 0 < M) (h1 : M ≤ 8192) : Rgood (zeroR M) := by
  refine ⟨by simpa [zeroR] using h0, by simpa [zeroR] using h1, Nat.zero_le _, Nat.le_refl _, ⟨by simp [zeroR], by simp [zeroR]⟩, fun l hl => ?_⟩
  obtain rfl := (List.mem_replicate.1 hl).2
  exact ⟨rfl, Nat.le_refl _, Nat.le_refl _, by simp [zL], by simp [zL]⟩


theorem info_155 : Try.prog.info? 155 = some Try.t155 := by kernel_rfl
theorem nilQ_len (ls : List Rl) : (nilQ ls).length = ls.length := List.length_map ..

theorem rflush_d (p : Nat) (γ : Rg) (ρ : Rs) (a : Int) (k : Nat) (l : Rl) (w : World) (hk : ρ.ls[k]? = some l) (h0 : 64 * (k : Int) ≤ a) (h1 : a < 64 * (k : Int) + 64) (hs : ρ.now + 1 ≤ 1099511627776) (hno : ρ.left ≠ 0) (hd : (RDev p γ ρ).holds w) :
    RDevU Try.prog 90 [.pointer (some ⟨p, 0, none⟩), .int .i64 a] p γ ρ (.int .i64 0) (flushL ρ k l) w := by
 refine enterRc hd Try.func90 rfl Try.ntmps90 rfl ?_
 obtain ⟨hQ, hg⟩ := RDev.facts hd
 have hln := hg.len
 have hps := hg.pos
 have hnw := hg.now
 have hkl := (List.getElem?_eq_some_iff.1 hk).1
 simp only [envOf]
 refine tR ?_
 refine tA rfl rfl ?_
 refine tE ?_
 refine At.seq ?_
 refine tR ?_
 refine tM rfl rfl ?_
 refine At.val (Val.bin rfl rfl rfl) rfl rfl rfl ?_
 refine tM rfl rfl ?_
 refine At.split (t := 9) rfl (fun h1 => ?_) (fun h1 => ?_)
 ·skip
  try simp only [hasB, isSizeB, Bool.not_eq_true', Bool.not_eq_false', bne_iff_ne, ne_eq, bne_eq_false_iff_eq, beq_iff_eq, beq_eq_false_iff_ne, decide_eq_true_eq, decide_eq_false_iff_not, gt_iff_lt, ge_iff_le] at h1
  omega
 ·skip
  try simp only [hasB, isSizeB, Bool.not_eq_true', Bool.not_eq_false', bne_iff_ne, ne_eq, bne_eq_false_iff_eq, beq_iff_eq, beq_eq_false_iff_ne, decide_eq_true_eq, decide_eq_false_iff_not, gt_iff_lt, ge_iff_le] at h1
  refine At.yes rfl rfl ?_
  refine tM rfl rfl ?_
  refine At.yes rfl rfl ?_
  refine tM rfl rfl ?_
  refine At.yes rfl rfl ?_
  refine At.callK 0 rfl (fun w hw hr => rsize_k _ _ _ w hr) Try.call85 rfl rfl ?_
  refine At.yes rfl rfl ?_
  refine At.val (Val.bin rfl rfl rfl) rfl rfl rfl ?_
  refine At.val (Val.pickF rfl rfl) rfl rfl rfl ?_
  refine tE ?_
  refine At.cond rfl (fun h2 => ?_) (fun h2 => ?_)
  ·skip
   try simp only [hasB, isSizeB, Bool.not_eq_true', Bool.not_eq_false', bne_iff_ne, ne_eq, bne_eq_false_iff_eq, beq_iff_eq, beq_eq_false_iff_ne, decide_eq_true_eq, decide_eq_false_iff_not, gt_iff_lt, ge_iff_le] at h2
   omega
  ·skip
   try simp only [hasB, isSizeB, Bool.not_eq_true', Bool.not_eq_false', bne_iff_ne, ne_eq, bne_eq_false_iff_eq, beq_iff_eq, beq_eq_false_iff_ne, decide_eq_true_eq, decide_eq_false_iff_not, gt_iff_lt, ge_iff_le] at h2
   refine At.skipC ?_
   refine At.thenN ?_
   refine tR ?_
   refine tM rfl rfl ?_
   refine At.callRD 0 rfl (fun w hw hr => rstep_d _ _ _ w hs hno hr) Try.call117 rfl rfl (fun y3 => ?_)
   simp only [sc0, scS]
   refine tA rfl rfl ?_
   refine tE ?_
   refine At.seq ?_
   refine tR ?_
   refine tM rfl rfl ?_
   refine At.val (Val.bin rfl rfl rfl) rfl rfl rfl ?_
   refine tE ?_
   refine At.cond rfl (fun h4 => ?_) (fun h4 => ?_)
   ·skip
    try simp only [hasB, isSizeB, Bool.not_eq_true', Bool.not_eq_false', bne_iff_ne, ne_eq, bne_eq_false_iff_eq, beq_iff_eq, beq_eq_false_iff_ne, decide_eq_true_eq, decide_eq_false_iff_not, gt_iff_lt, ge_iff_le] at h4
    omega
   ·skip
    try simp only [hasB, isSizeB, Bool.not_eq_true', Bool.not_eq_false', bne_iff_ne, ne_eq, bne_eq_false_iff_eq, beq_iff_eq, beq_eq_false_iff_ne, decide_eq_true_eq, decide_eq_false_iff_not, gt_iff_lt, ge_iff_le] at h4
    refine At.skipC ?_
    refine At.thenN ?_
    refine At.seq ?_
    refine At.openS 0 rfl ?_
    simp only [rdevL, List.cons_append, List.nil_append, ec0, ecS]
    refine At.fact 3 rfl (fun hf => ?_)
    obtain ⟨hQ1, hg1⟩ := hf
    have h81 := first8_of hQ1 hg1
    have hQl1 : y3.Q.length = (stepR ρ).ls.length := by rw [← hQ1, List.length_map]
    obtain ⟨q, hq⟩ : ∃ q, y3.Q[k]? = some q := ⟨_, List.getElem?_eq_getElem (by rw [hQl1]; exact hkl)⟩
    have hlq := line_at hQ1 hq
    obtain rfl : l = q.1 := Option.some.inj (hk.symm.trans hlq)
    obtain ⟨hg11, hg12, hg13, hg14, hg15⟩ := hg1.line q.1 (List.mem_of_getElem? hlq)
    have hg13n := (hg.line q.1 (List.mem_of_getElem? hk)).2
    have hkQ : k < y3.Q.length := by rw [hQl1]; exact hkl
    refine At.region ?_
    refine tM rfl rfl ?_
    refine At.val (Val.nilCheck rfl) rfl rfl rfl ?_
    refine At.val (Val.field 0 rfl fo_134_0 rfl) rfl rfl rfl ?_
    refine At.val (Val.load (i := 0) Try.isAgg132 rfl rfl rfl) rfl rfl rfl ?_
    refine tM rfl rfl ?_
    refine At.val (Val.quoI rfl rfl (by omega) (by omega) (by decide)) rfl rfl rfl ?_
    rw [show a / 64 = (k : Int) from by omega]
    refine At.val (Val.indexRow (i := 1) (k * 10) (by omega) Try.underlying132 Try.sizeOf155 rfl rfl rfl (by omega) (by omega)) rfl rfl rfl ?_
    refine tA rfl rfl ?_
    refine tE ?_
    refine tR ?_
    refine tM rfl rfl ?_
    refine tM rfl rfl ?_
    refine At.val (Val.nilCheck rfl) rfl rfl rfl ?_
    refine At.val (Val.field ((k * 10 + 9)) rfl fo_155_2 rfl) rfl rfl rfl ?_
    refine At.val (Val.loadRow (i := 1) Try.isAgg23 rfl rfl (lC_fl h81 hq)) rfl rfl rfl ?_
    refine tM rfl rfl ?_
    refine At.buildSl (fun a ha => by simp only [List.map_toArray, List.map_cons, List.map_nil, ha.eval (x := (.tmp 31)) rfl]; try rfl) (bs_23_1 _ ) rfl (fun b5 => ?_)
    refine At.focusL 3 rfl hq ?_
    simp only [ec0, ecS]
    refine At.appendFl (i := 1) (j := 3) (by_ := 8) (c := ρ.now + 1) Try.underlying23 info_3 rfl rfl rfl rfl rfl rfl rfl rfl rfl (by omega) (by omega) rfl (fun v6 => ?_)
    simp only [sc0, scS]
    refine At.drop 3 ?_
    simp only [ec0, ecS]
    refine At.val (Val.nilCheck rfl) rfl rfl rfl ?_
    refine At.val (Val.field ((k * 10 + 9)) rfl fo_155_2 rfl) rfl rfl rfl ?_
    refine At.rowOne (i := 1) rfl (fun ho => ?_)
    refine At.storeRow (i := 4) Try.sizeOf23 rfl rfl ho rfl (by rw [lC_length h81]; omega) ?_
    simp only [sc0, scS]
    rw [lC_setFl (l' := { q.1 with fl := q.1.fl ++ [ρ.now + 1] }) h81 hq rfl]
    refine At.unfocusL (q' := ({ q.1 with fl := q.1.fl ++ [ρ.now + 1] }, q.2.1, v6)) hkQ ?_
    refine At.rot2 ?_
    refine tE ?_
    refine tR ?_
    refine tA rfl rfl ?_
    refine tE ?_
    refine At.retC ?_
    refine At.ret1 (.inl rfl) rfl rfl rfl (fun w hw => ?_)
    exact ⟨⟨y3.vl, y3.Q.set k ({ q.1 with fl := q.1.fl ++ [ρ.now + 1] }, q.2.1, v6)⟩, rfl, toRDev1 (by show (List.set _ _ _).map _ = List.set _ _ _; rw [List.map_set, hQ1]; rfl) (flushL_good hg hk hs) hw rfl (by rw [List.length_set]) rfl⟩

theorem rflush_0 (p : Nat) (γ : Rg) (ρ : Rs) (a : Int) (w : World) (h0 : 0 ≤ a) (h1 : a < 64 * (ρ.ls.length : Int)) (hno : ρ.left = 0) (hd : (RDev p γ ρ).holds w) :
    Upd Try.prog 90 [.pointer (some ⟨p, 0, none⟩), .int .i64 a] (RDev p γ ρ) (.int .i64 13) (RDev p γ ρ) w := by
 refine enterRc hd Try.func90 rfl Try.ntmps90 rfl ?_
 obtain ⟨hQ, hg⟩ := RDev.facts hd
 have hln := hg.len
 have hps := hg.pos
 have hnw := hg.now
 simp only [envOf]
 refine tR ?_
 refine tA rfl rfl ?_
 refine tE ?_
 refine At.seq ?_
 refine tR ?_
 refine tM rfl rfl ?_
 refine At.val (Val.bin rfl rfl rfl) rfl rfl rfl ?_
 refine tM rfl rfl ?_
 refine At.split (t := 9) rfl (fun h1 => ?_) (fun h1 => ?_)
 ·skip
  try simp only [hasB, isSizeB, Bool.not_eq_true', Bool.not_eq_false', bne_iff_ne, ne_eq, bne_eq_false_iff_eq, beq_iff_eq, beq_eq_false_iff_ne, decide_eq_true_eq, decide_eq_false_iff_not, gt_iff_lt, ge_iff_le] at h1
  omega
 ·skip
  try simp only [hasB, isSizeB, Bool.not_eq_true', Bool.not_eq_false', bne_iff_ne, ne_eq, bne_eq_false_iff_eq, beq_iff_eq, beq_eq_false_iff_ne, decide_eq_true_eq, decide_eq_false_iff_not, gt_iff_lt, ge_iff_le] at h1
  refine At.yes rfl rfl ?_
  refine tM rfl rfl ?_
  refine At.yes rfl rfl ?_
  refine tM rfl rfl ?_
  refine At.yes rfl rfl ?_
  refine At.callK 0 rfl (fun w hw hr => rsize_k _ _ _ w hr) Try.call85 rfl rfl ?_
  refine At.yes rfl rfl ?_
  refine At.val (Val.bin rfl rfl rfl) rfl rfl rfl ?_
  refine At.val (Val.pickF rfl rfl) rfl rfl rfl ?_
  refine tE ?_
  refine At.cond rfl (fun h2 => ?_) (fun h2 => ?_)
  ·skip
   try simp only [hasB, isSizeB, Bool.not_eq_true', Bool.not_eq_false', bne_iff_ne, ne_eq, bne_eq_false_iff_eq, beq_iff_eq, beq_eq_false_iff_ne, decide_eq_true_eq, decide_eq_false_iff_not, gt_iff_lt, ge_iff_le] at h2
   omega
  ·skip
   try simp only [hasB, isSizeB, Bool.not_eq_true', Bool.not_eq_false', bne_iff_ne, ne_eq, bne_eq_false_iff_eq, beq_iff_eq, beq_eq_false_iff_ne, decide_eq_true_eq, decide_eq_false_iff_not, gt_iff_lt, ge_iff_le] at h2
   refine At.skipC ?_
   refine At.thenN ?_
   refine tR ?_
   refine tM rfl rfl ?_
   refine At.callK 0 rfl (fun w hw hr => rstep_0 _ _ _ w hno hr) Try.call117 rfl rfl ?_
   refine tA rfl rfl ?_
   refine tE ?_
   refine At.seq ?_
   refine tR ?_
   refine tM rfl rfl ?_
   refine At.val (Val.bin rfl rfl rfl) rfl rfl rfl ?_
   refine tE ?_
   refine At.condT rfl ?_
   refine tR ?_
   refine tA rfl rfl ?_
   refine tE ?_
   refine At.retC ?_
   refine At.thenR ?_
   refine At.ret1 (.inl rfl) rfl rfl rfl (fun w hw => ?_)
   exact ⟨rfl, hw⟩

theorem rflush_no (p : Nat) (γ : Rg) (ρ : Rs) (a : Int) (w : World) (h0 : ¬ (0 ≤ a ∧ a < 64 * (ρ.ls.length : Int))) (hd : (RDev p γ ρ).holds w) :
    Upd Try.prog 90 [.pointer (some ⟨p, 0, none⟩), .int .i64 a] (RDev p γ ρ) (.int .i64 11) (RDev p γ ρ) w := by
 refine enterRc hd Try.func90 rfl Try.ntmps90 rfl ?_
 obtain ⟨hQ, hg⟩ := RDev.facts hd
 have hln := hg.len
 have hps := hg.pos
 have hnw := hg.now
 simp only [envOf]
 refine tR ?_
 refine tA rfl rfl ?_
 refine tE ?_
 refine At.seq ?_
 refine tR ?_
 refine tM rfl rfl ?_
 refine At.weaken [(0, _), (1, _), (4, _), (7, _)] (Sub.cons rfl (Sub.cons rfl (Sub.cons rfl (Sub.cons rfl Sub.nil)))) ?_
 refine At.boolMeet 7 14 (true) ?_ ?_
 ·skip
  simp only [List.take_succ_cons, List.take_zero]
  refine At.val (Val.bin rfl rfl rfl) rfl rfl rfl ?_
  refine tM rfl rfl ?_
  refine At.split (t := 9) rfl (fun h1 => ?_) (fun h1 => ?_)
  ·skip
   try simp only [hasB, isSizeB, Bool.not_eq_true', Bool.not_eq_false', bne_iff_ne, ne_eq, bne_eq_false_iff_eq, beq_iff_eq, beq_eq_false_iff_ne, decide_eq_true_eq, decide_eq_false_iff_not, gt_iff_lt, ge_iff_le] at h1
   refine At.no rfl rfl rfl rfl ?_
   refine At.no rfl rfl rfl rfl ?_
   refine At.no rfl rfl rfl rfl ?_
   refine At.no rfl rfl rfl rfl ?_
   refine At.val (Val.pickT rfl rfl) rfl rfl rfl ?_
   refine At.nil ?_
   exact At.boolEnd rfl (by first | exact (decide_eq_true (by omega)).symm | exact (decide_eq_false (by omega)).symm | (apply Bool.eq_iff_iff.2; simp only [decide_eq_true_eq, beq_iff_eq, bne_iff_ne, ne_eq, Bool.not_eq_true', decide_eq_false_iff_not]; omega) | rfl | (simp_all; done) | (simp_all; omega)) (by repeat (first | exact Sub.nil | refine Sub.cons rfl ?_))
  ·skip
   try simp only [hasB, isSizeB, Bool.not_eq_true', Bool.not_eq_false', bne_iff_ne, ne_eq, bne_eq_false_iff_eq, beq_iff_eq, beq_eq_false_iff_ne, decide_eq_true_eq, decide_eq_false_iff_not, gt_iff_lt, ge_iff_le] at h1
   refine At.yes rfl rfl ?_
   refine tM rfl rfl ?_
   refine At.yes rfl rfl ?_
   refine tM rfl rfl ?_
   refine At.yes rfl rfl ?_
   refine At.callK 0 rfl (fun w hw hr => rsize_k _ _ _ w hr) Try.call85 rfl rfl ?_
   refine At.yes rfl rfl ?_
   refine At.val (Val.bin rfl rfl rfl) rfl rfl rfl ?_
   refine At.val (Val.pickF rfl rfl) rfl rfl rfl ?_
   refine At.nil ?_
   exact At.boolEnd rfl (by first | exact (decide_eq_true (by omega)).symm | exact (decide_eq_false (by omega)).symm | (apply Bool.eq_iff_iff.2; simp only [decide_eq_true_eq, beq_iff_eq, bne_iff_ne, ne_eq, Bool.not_eq_true', decide_eq_false_iff_not]; omega) | rfl | (simp_all; done) | (simp_all; omega)) (by repeat (first | exact Sub.nil | refine Sub.cons rfl ?_))
 ·skip
  simp only [List.drop_succ_cons, List.drop_zero]
  refine tE ?_
  refine At.cond rfl (fun h2 => ?_) (fun h2 => ?_)
  ·skip
   try simp only [hasB, isSizeB, Bool.not_eq_true', Bool.not_eq_false', bne_iff_ne, ne_eq, bne_eq_false_iff_eq, beq_iff_eq, beq_eq_false_iff_ne, decide_eq_true_eq, decide_eq_false_iff_not, gt_iff_lt, ge_iff_le] at h2
   refine tR ?_
   refine tA rfl rfl ?_
   refine tE ?_
   refine At.retC ?_
   refine At.thenR ?_
   refine At.ret1 (.inl rfl) rfl rfl rfl (fun w hw => ?_)
   exact ⟨rfl, hw⟩
  ·skip
   try simp only [hasB, isSizeB, Bool.not_eq_true', Bool.not_eq_false', bne_iff_ne, ne_eq, bne_eq_false_iff_eq, beq_iff_eq, beq_eq_false_iff_ne, decide_eq_true_eq, decide_eq_false_iff_not, gt_iff_lt, ge_iff_le] at h2
   cases h2

theorem rstore_d (p : Nat) (γ : Rg) (ρ : Rs) (k j : Nat) (l : Rl) (x : BitVec 64) (w : World) (hk : ρ.ls[k]? = some l) (hj : j < 8) (hs : ρ.now + 1 ≤ 1099511627776) (hno : ρ.left ≠ 0) (hd : (RDev p γ ρ).holds w) :
    RDevU Try.prog 88 [.pointer (some ⟨p, 0, none⟩), .int .i64 (8 * ((8 * k + j : Nat) : Int)), b64 x] p γ ρ (.int .i64 0) (storeL ρ k j l x) w := by
 refine enterRc hd Try.func88 rfl Try.ntmps88 rfl ?_
 obtain ⟨hQ, hg⟩ := RDev.facts hd
 have hln := hg.len
 have hps := hg.pos
 have hnw := hg.now
 have hkl := (List.getElem?_eq_some_iff.1 hk).1
 simp only [envOf]
 refine tR ?_
 refine tA rfl rfl ?_
 refine tE ?_
 refine tR ?_
 refine tM rfl rfl ?_
 refine tM rfl rfl ?_
 refine At.callK 0 rfl (fun w hw hr => (wrong_at (ρ := ρ) (K := 8 * k + j) (by omega)) ▸ wrong_k _ _ _ _ w hr) Try.call114 rfl rfl ?_
 refine tA rfl rfl ?_
 refine tE ?_
 refine At.seq ?_
 refine tR ?_
 refine tM rfl rfl ?_
 refine At.val (Val.bin rfl rfl rfl) rfl rfl rfl ?_
 refine tE ?_
 refine At.condF rfl ?_
 refine At.skipC ?_
 refine At.thenN ?_
 refine tR ?_
 refine tM rfl rfl ?_
 refine At.callRD 0 rfl (fun w hw hr => rstep_d _ _ _ w hs hno hr) Try.call117 rfl rfl (fun y1 => ?_)
 simp only [sc0, scS]
 refine tA rfl rfl ?_
 refine tE ?_
 refine At.seq ?_
 refine tR ?_
 refine tM rfl rfl ?_
 refine At.val (Val.bin rfl rfl rfl) rfl rfl rfl ?_
 refine tE ?_
 refine At.cond rfl (fun h2 => ?_) (fun h2 => ?_)
 ·skip
  try simp only [hasB, isSizeB, Bool.not_eq_true', Bool.not_eq_false', bne_iff_ne, ne_eq, bne_eq_false_iff_eq, beq_iff_eq, beq_eq_false_iff_ne, decide_eq_true_eq, decide_eq_false_iff_not, gt_iff_lt, ge_iff_le] at h2
  omega
 ·skip
  try simp only [hasB, isSizeB, Bool.not_eq_true', Bool.not_eq_false', bne_iff_ne, ne_eq, bne_eq_false_iff_eq, beq_iff_eq, beq_eq_false_iff_ne, decide_eq_true_eq, decide_eq_false_iff_not, gt_iff_lt, ge_iff_le] at h2
  refine At.skipC ?_
  refine At.thenN ?_
  refine At.seq ?_
  refine At.openS 0 rfl ?_
  simp only [rdevL, List.cons_append, List.nil_append, ec0, ecS]
  refine At.fact 3 rfl (fun hf => ?_)
  obtain ⟨hQ1, hg1⟩ := hf
  have h81 := first8_of hQ1 hg1
  have hQl1 : y1.Q.length = (stepR ρ).ls.length := by rw [← hQ1, List.length_map]
  obtain ⟨q, hq⟩ : ∃ q, y1.Q[k]? = some q := ⟨_, List.getElem?_eq_getElem (by rw [hQl1]; exact hkl)⟩
  have hlq := line_at hQ1 hq
  obtain rfl : l = q.1 := Option.some.inj (hk.symm.trans hlq)
  obtain ⟨hg11, hg12, hg13, hg14, hg15⟩ := hg1.line q.1 (List.mem_of_getElem? hlq)
  have hg13n := (hg.line q.1 (List.mem_of_getElem? hk)).2
  have hkQ : k < y1.Q.length := by rw [hQl1]; exact hkl
  refine At.region ?_
  refine tM rfl rfl ?_
  refine At.val (Val.nilCheck rfl) rfl rfl rfl ?_
  refine At.val (Val.field 0 rfl fo_134_0 rfl) rfl rfl rfl ?_
  refine At.val (Val.load (i := 0) Try.isAgg132 rfl rfl rfl) rfl rfl rfl ?_
  refine tM rfl rfl ?_
  refine At.val (Val.quoI rfl rfl (by omega) (by omega) (by decide)) rfl rfl rfl ?_
  rw [show 8 * ((8 * k + j : Nat) : Int) / 64 = (k : Int) from by omega]
  refine At.val (Val.indexRow (i := 1) (k * 10) (by omega) Try.underlying132 Try.sizeOf155 rfl rfl rfl (by omega) (by omega)) rfl rfl rfl ?_
  refine tA rfl rfl ?_
  refine tE ?_
  refine tR ?_
  refine tM rfl rfl ?_
  refine tM rfl rfl ?_
  refine At.val (Val.nilCheck rfl) rfl rfl rfl ?_
  refine At.val (Val.field ((k * 10 + 8)) rfl fo_155_1 rfl) rfl rfl rfl ?_
  refine At.val (Val.loadRow (i := 1) Try.isAgg153 rfl rfl (lC_puts h81 hq)) rfl rfl rfl ?_
  refine tM rfl rfl ?_
  refine At.val (Val.quoI rfl rfl (by omega) (by omega) (by decide)) rfl rfl rfl ?_
  rw [show 8 * ((8 * k + j : Nat) : Int) / 8 = ((8 * k + j : Nat) : Int) from by omega]
  refine At.val (Val.remI rfl rfl (by omega) (by decide)) rfl rfl rfl ?_
  rw [show ((8 * k + j : Nat) : Int) % 8 = (j : Int) from by omega]
  refine tM rfl rfl ?_
  refine tM rfl rfl ?_
  refine At.val (Val.build (fun a ha => by simp only [List.map_toArray, List.map_cons, List.map_nil, ha.eval (x := (.tmp 34)) rfl, ha.eval (x := (.tmp 35)) rfl, ha.eval (x := (.tmp 36)) rfl] <;> rfl) (bld_158_0_1_2 _ _ _ )) rfl rfl rfl ?_
  refine At.buildSl (fun a ha => by simp only [List.map_toArray, List.map_cons, List.map_nil, ha.eval (x := (.tmp 37)) rfl]; try rfl) (bs_153_1 _ _ _ ) rfl (fun b3 => ?_)
  refine At.focusL 3 rfl hq ?_
  simp only [ec0, ecS]
  refine At.appendPu (i := 0) (j := 3) (by_ := 24) (c := (j, x, ρ.now + 1)) Try.underlying153 info_158 rfl rfl rfl rfl rfl rfl rfl rfl rfl (by omega) (by omega) rfl (fun v4 => ?_)
  simp only [sc0, scS]
  refine At.drop 3 ?_
  simp only [ec0, ecS]
  refine At.val (Val.nilCheck rfl) rfl rfl rfl ?_
  refine At.val (Val.field ((k * 10 + 8)) rfl fo_155_1 rfl) rfl rfl rfl ?_
  refine At.rowOne (i := 0) rfl (fun ho => ?_)
  refine At.storeRow (i := 4) Try.sizeOf153 rfl rfl ho rfl (by rw [lC_length h81]; omega) ?_
  simp only [sc0, scS]
  rw [lC_setPuts (l' := { q.1 with puts := q.1.puts ++ [(j, x, ρ.now + 1)] }) h81 hq rfl]
  refine At.unfocusL (q' := ({ q.1 with puts := q.1.puts ++ [(j, x, ρ.now + 1)] }, v4, q.2.2)) hkQ ?_
  refine At.rot2 ?_
  refine tE ?_
  refine tR ?_
  refine tA rfl rfl ?_
  refine tE ?_
  refine At.retC ?_
  refine At.ret1 (.inl rfl) rfl rfl rfl (fun w hw => ?_)
  exact ⟨⟨y1.vl, y1.Q.set k ({ q.1 with puts := q.1.puts ++ [(j, x, ρ.now + 1)] }, v4, q.2.2)⟩, rfl, toRDev1 (by show (List.set _ _ _).map _ = List.set _ _ _; rw [List.map_set, hQ1]; rfl) (storeL_good hg hk hj hs) hw rfl (by rw [List.length_set]) rfl⟩

theorem rstore_0 (p : Nat) (γ : Rg) (ρ : Rs) (a : Int) (x : BitVec 64) (w : World) (ha : wrongE ρ a = 0) (hno : ρ.left = 0) (hd : (RDev p γ ρ).holds w) :
    Upd Try.prog 88 [.pointer (some ⟨p, 0, none⟩), .int .i64 a, b64 x] (RDev p γ ρ) (.int .i64 13) (RDev p γ ρ) w := by
 refine enterRc hd Try.func88 rfl Try.ntmps88 rfl ?_
 obtain ⟨hQ, hg⟩ := RDev.facts hd
 have hln := hg.len
 have hps := hg.pos
 have hnw := hg.now
 simp only [envOf]
 refine tR ?_
 refine tA rfl rfl ?_
 refine tE ?_
 refine tR ?_
 refine tM rfl rfl ?_
 refine tM rfl rfl ?_
 refine At.callK 0 rfl (fun w hw hr => ha ▸ wrong_k _ _ _ _ w hr) Try.call114 rfl rfl ?_
 refine tA rfl rfl ?_
 refine tE ?_
 refine At.seq ?_
 refine tR ?_
 refine tM rfl rfl ?_
 refine At.val (Val.bin rfl rfl rfl) rfl rfl rfl ?_
 refine tE ?_
 refine At.condF rfl ?_
 refine At.skipC ?_
 refine At.thenN ?_
 refine tR ?_
 refine tM rfl rfl ?_
 refine At.callK 0 rfl (fun w hw hr => rstep_0 _ _ _ w hno hr) Try.call117 rfl rfl ?_
 refine tA rfl rfl ?_
 refine tE ?_
 refine At.seq ?_
 refine tR ?_
 refine tM rfl rfl ?_
 refine At.val (Val.bin rfl rfl rfl) rfl rfl rfl ?_
 refine tE ?_
 refine At.condT rfl ?_
 refine tR ?_
 refine tA rfl rfl ?_
 refine tE ?_
 refine At.retC ?_
 refine At.thenR ?_
 refine At.ret1 (.inl rfl) rfl rfl rfl (fun w hw => ?_)
 exact ⟨rfl, hw⟩

theorem rstore_no (p : Nat) (γ : Rg) (ρ : Rs) (a : Int) (x : BitVec 64) (w : World) (ha : wrongE ρ a ≠ 0) (hd : (RDev p γ ρ).holds w) :
    Upd Try.prog 88 [.pointer (some ⟨p, 0, none⟩), .int .i64 a, b64 x] (RDev p γ ρ) (.int .i64 (wrongE ρ a)) (RDev p γ ρ) w := by
 refine enterRc hd Try.func88 rfl Try.ntmps88 rfl ?_
 obtain ⟨hQ, hg⟩ := RDev.facts hd
 have hln := hg.len
 have hps := hg.pos
 have hnw := hg.now
 simp only [envOf]
 refine tR ?_
 refine tA rfl rfl ?_
 refine tE ?_
 refine tR ?_
 refine tM rfl rfl ?_
 refine tM rfl rfl ?_
 refine At.callK 0 rfl (fun w hw hr => wrong_k _ _ _ _ w hr) Try.call114 rfl rfl ?_
 refine tA rfl rfl ?_
 refine tE ?_
 refine At.seq ?_
 refine tR ?_
 refine tM rfl rfl ?_
 refine At.val (Val.bin rfl rfl rfl) rfl rfl rfl ?_
 refine tE ?_
 refine At.cond rfl (fun h1 => ?_) (fun h1 => ?_)
 ·skip
  try simp only [hasB, isSizeB, Bool.not_eq_true', Bool.not_eq_false', bne_iff_ne, ne_eq, bne_eq_false_iff_eq, beq_iff_eq, beq_eq_false_iff_ne, decide_eq_true_eq, decide_eq_false_iff_not, gt_iff_lt, ge_iff_le] at h1
  refine tR ?_
  refine tM rfl rfl ?_
  refine tA rfl rfl ?_
  refine tE ?_
  refine At.retC ?_
  refine At.thenR ?_
  refine At.ret1 (.inl rfl) rfl rfl rfl (fun w hw => ?_)
  exact ⟨rfl, hw⟩
 ·skip
  try simp only [hasB, isSizeB, Bool.not_eq_true', Bool.not_eq_false', bne_iff_ne, ne_eq, bne_eq_false_iff_eq, beq_iff_eq, beq_eq_false_iff_ne, decide_eq_true_eq, decide_eq_false_iff_not, gt_iff_lt, ge_iff_le] at h1
  exact absurd h1 ha

theorem rnew_d (n : Int) (M : Nat) (w : World) (hn : isSizeB n = true) (hM : n = 64 * (M : Int)) :
    NewRDev Try.prog 75 [.int .i64 n] (zeroR M) w := by
 refine enter (feet []) [] Try.func75 rfl Try.ntmps75 rfl ⟨by simp, by simp, by simp, Mod.refl _ _⟩ ?_
 have hnn := hn
 unfold isSizeB at hnn
 rw [decide_eq_true_eq] at hnn
 simp only [envOf]
 refine tR ?_
 refine tA rfl rfl ?_
 refine tA rfl rfl ?_
 refine tE ?_
 refine At.seq ?_
 refine tR ?_
 refine tM rfl rfl ?_
 refine At.weaken [(0, _), (2, _), (3, _), (4, _)] (Sub.cons rfl (Sub.cons rfl (Sub.cons rfl (Sub.cons rfl Sub.nil)))) ?_
 refine At.boolMeet 10 14 (false) ?_ ?_
 ·skip
  simp only [List.take_succ_cons, List.take_zero]
  refine At.val (Val.bin rfl rfl rfl) rfl rfl rfl ?_
  refine tM rfl rfl ?_
  refine At.split (t := 6) rfl (fun h1 => ?_) (fun h1 => ?_)
  ·skip
   try simp only [hasB, isSizeB, Bool.not_eq_true', Bool.not_eq_false', bne_iff_ne, ne_eq, bne_eq_false_iff_eq, beq_iff_eq, beq_eq_false_iff_ne, decide_eq_true_eq, decide_eq_false_iff_not, gt_iff_lt, ge_iff_le] at h1
   refine At.no rfl rfl rfl rfl ?_
   refine At.no rfl rfl rfl rfl ?_
   refine At.val (Val.pickT rfl rfl) rfl rfl rfl ?_
   refine tM rfl rfl ?_
   refine At.no rfl rfl rfl rfl ?_
   refine At.no rfl rfl rfl rfl ?_
   refine At.no rfl rfl rfl rfl ?_
   refine At.val (Val.pickT rfl rfl) rfl rfl rfl ?_
   refine At.nil ?_
   exact At.boolEnd rfl (by first | exact (decide_eq_true (by omega)).symm | exact (decide_eq_false (by omega)).symm | (apply Bool.eq_iff_iff.2; simp only [decide_eq_true_eq, beq_iff_eq, bne_iff_ne, ne_eq, Bool.not_eq_true', decide_eq_false_iff_not]; omega) | rfl | (simp_all; done) | (simp_all; omega)) (by repeat (first | exact Sub.nil | refine Sub.cons rfl ?_))
  ·skip
   try simp only [hasB, isSizeB, Bool.not_eq_true', Bool.not_eq_false', bne_iff_ne, ne_eq, bne_eq_false_iff_eq, beq_iff_eq, beq_eq_false_iff_ne, decide_eq_true_eq, decide_eq_false_iff_not, gt_iff_lt, ge_iff_le] at h1
   refine At.yes rfl rfl ?_
   refine tM rfl rfl ?_
   refine At.yes rfl rfl ?_
   refine At.val (Val.bin rfl rfl rfl) rfl rfl rfl ?_
   refine At.val (Val.pickF rfl rfl) rfl rfl rfl ?_
   refine tM rfl rfl ?_
   refine At.split (t := 10) rfl (fun h2 => ?_) (fun h2 => ?_)
   ·skip
    try simp only [hasB, isSizeB, Bool.not_eq_true', Bool.not_eq_false', bne_iff_ne, ne_eq, bne_eq_false_iff_eq, beq_iff_eq, beq_eq_false_iff_ne, decide_eq_true_eq, decide_eq_false_iff_not, gt_iff_lt, ge_iff_le] at h2
    refine At.no rfl rfl rfl rfl ?_
    refine At.no rfl rfl rfl rfl ?_
    refine At.no rfl rfl rfl rfl ?_
    refine At.val (Val.pickT rfl rfl) rfl rfl rfl ?_
    refine At.nil ?_
    exact At.boolEnd rfl (by first | exact (decide_eq_true (by omega)).symm | exact (decide_eq_false (by omega)).symm | (apply Bool.eq_iff_iff.2; simp only [decide_eq_true_eq, beq_iff_eq, bne_iff_ne, ne_eq, Bool.not_eq_true', decide_eq_false_iff_not]; omega) | rfl | (simp_all; done) | (simp_all; omega)) (by repeat (first | exact Sub.nil | refine Sub.cons rfl ?_))
   ·skip
    try simp only [hasB, isSizeB, Bool.not_eq_true', Bool.not_eq_false', bne_iff_ne, ne_eq, bne_eq_false_iff_eq, beq_iff_eq, beq_eq_false_iff_ne, decide_eq_true_eq, decide_eq_false_iff_not, gt_iff_lt, ge_iff_le] at h2
    refine At.yes rfl rfl ?_
    refine tM rfl rfl ?_
    refine At.yes rfl rfl ?_
    first | refine At.val (Val.remI rfl rfl (by omega) (by decide)) rfl rfl rfl ?_ | refine At.val (Val.rem rfl rfl (by decide)) rfl rfl rfl ?_
    refine At.yes rfl rfl ?_
    refine At.val (Val.bin rfl rfl rfl) rfl rfl rfl ?_
    refine At.val (Val.pickF rfl rfl) rfl rfl rfl ?_
    refine At.nil ?_
    exact At.boolEnd rfl (by first | exact (decide_eq_true (by omega)).symm | exact (decide_eq_false (by omega)).symm | (apply Bool.eq_iff_iff.2; simp only [decide_eq_true_eq, beq_iff_eq, bne_iff_ne, ne_eq, Bool.not_eq_true', decide_eq_false_iff_not]; omega) | rfl | (simp_all; done) | (simp_all; omega)) (by repeat (first | exact Sub.nil | refine Sub.cons rfl ?_))
 ·skip
  simp only [List.drop_succ_cons, List.drop_zero]
  refine tE ?_
  refine At.cond rfl (fun h3 => ?_) (fun h3 => ?_)
  ·skip
   try simp only [hasB, isSizeB, Bool.not_eq_true', Bool.not_eq_false', bne_iff_ne, ne_eq, bne_eq_false_iff_eq, beq_iff_eq, beq_eq_false_iff_ne, decide_eq_true_eq, decide_eq_false_iff_not, gt_iff_lt, ge_iff_le] at h3
   cases h3
  ·skip
   try simp only [hasB, isSizeB, Bool.not_eq_true', Bool.not_eq_false', bne_iff_ne, ne_eq, bne_eq_false_iff_eq, beq_iff_eq, beq_eq_false_iff_ne, decide_eq_true_eq, decide_eq_false_iff_not, gt_iff_lt, ge_iff_le] at h3
   refine At.skipC ?_
   refine At.thenN ?_
   refine tR ?_
   refine tM rfl rfl ?_
   refine At.val (Val.quoI rfl rfl (by omega) (by omega) (by decide)) rfl rfl rfl ?_
   rw [show n / 64 = (M : Int) from by omega]
   rw [hM]
   refine At.makeRow (n := M) Try.underlying132 info_155 rfl rfl (made_lines M) rfl rfl (Nat.le_trans (Nat.mul_le_mul_left _ (show M ≤ 8192 by omega)) (show (Try.t155).bytes * 8192 ≤ 281474976710656 by decide +kernel)) (by omega) rfl (fun v4 => ?_)
   refine At.rowIs (i := 0) rfl (fun A5 c6 hv7 => ?_)
   subst hv7
   refine At.val (Val.build (fun a ha => by simp only [List.map_toArray, List.map_cons, List.map_nil, ha.eval (x := (.tmp 17)) rfl, ha.eval (x := (.const (.int .i64 (-1)))) rfl] <;> rfl) (bld_134_0_3 _ _ _ _ )) rfl rfl rfl ?_
   refine At.box rfl rfl rfl (fun b8 => ?_)
   refine tA rfl rfl ?_
   refine tA rfl rfl ?_
   refine At.nil ?_
   refine At.famNone (ls := List.replicate M zL) (fun l hl => by obtain rfl := (List.mem_replicate.1 hl).2; exact ⟨rfl, rfl⟩) ?_
   refine At.rot2 ?_
   refine At.thenN ?_
   refine At.retC ?_
   refine At.ret2 (.inl rfl) rfl rfl rfl rfl (fun w hw => ?_)
   exact ⟨_, ⟨(.slice A5 M c6), nilQ (List.replicate M zL)⟩, rfl, toRDev1 (nilQ_fst _) (zeroR_good (by omega) (by omega)) hw rfl (by rw [nilQ_len, List.length_replicate]; rfl) rfl⟩

theorem rnew_no (n : Int) (w : World) (hn : isSizeB n = false) :
    PureC Try.prog 75 [.int .i64 n] (.tuple #[.pointer none, .int .i64 10]) w := by
 refine enter0 Try.func75 rfl Try.ntmps75 rfl ?_
 have hnn := hn
 unfold isSizeB at hnn
 rw [decide_eq_false_iff_not] at hnn
 simp only [envOf]
 refine tR ?_
 refine tA rfl rfl ?_
 refine tA rfl rfl ?_
 refine tE ?_
 refine At.seq ?_
 refine tR ?_
 refine tM rfl rfl ?_
 refine At.weaken [(0, _), (2, _), (3, _), (4, _)] (Sub.cons rfl (Sub.cons rfl (Sub.cons rfl (Sub.cons rfl Sub.nil)))) ?_
 refine At.boolMeet 10 14 (true) ?_ ?_
 ·skip
  simp only [List.take_succ_cons, List.take_zero]
  refine At.val (Val.bin rfl rfl rfl) rfl rfl rfl ?_
  refine tM rfl rfl ?_
  refine At.split (t := 6) rfl (fun h1 => ?_) (fun h1 => ?_)
  ·skip
   try simp only [hasB, isSizeB, Bool.not_eq_true', Bool.not_eq_false', bne_iff_ne, ne_eq, bne_eq_false_iff_eq, beq_iff_eq, beq_eq_false_iff_ne, decide_eq_true_eq, decide_eq_false_iff_not, gt_iff_lt, ge_iff_le] at h1
   refine At.no rfl rfl rfl rfl ?_
   refine At.no rfl rfl rfl rfl ?_
   refine At.val (Val.pickT rfl rfl) rfl rfl rfl ?_
   refine tM rfl rfl ?_
   refine At.no rfl rfl rfl rfl ?_
   refine At.no rfl rfl rfl rfl ?_
   refine At.no rfl rfl rfl rfl ?_
   refine At.val (Val.pickT rfl rfl) rfl rfl rfl ?_
   refine At.nil ?_
   exact At.boolEnd rfl (by first | exact (decide_eq_true (by omega)).symm | exact (decide_eq_false (by omega)).symm | (apply Bool.eq_iff_iff.2; simp only [decide_eq_true_eq, beq_iff_eq, bne_iff_ne, ne_eq, Bool.not_eq_true', decide_eq_false_iff_not]; omega) | rfl | (simp_all; done) | (simp_all; omega)) (by repeat (first | exact Sub.nil | refine Sub.cons rfl ?_))
  ·skip
   try simp only [hasB, isSizeB, Bool.not_eq_true', Bool.not_eq_false', bne_iff_ne, ne_eq, bne_eq_false_iff_eq, beq_iff_eq, beq_eq_false_iff_ne, decide_eq_true_eq, decide_eq_false_iff_not, gt_iff_lt, ge_iff_le] at h1
   refine At.yes rfl rfl ?_
   refine tM rfl rfl ?_
   refine At.yes rfl rfl ?_
   refine At.val (Val.bin rfl rfl rfl) rfl rfl rfl ?_
   refine At.val (Val.pickF rfl rfl) rfl rfl rfl ?_
   refine tM rfl rfl ?_
   refine At.split (t := 10) rfl (fun h2 => ?_) (fun h2 => ?_)
   ·skip
    try simp only [hasB, isSizeB, Bool.not_eq_true', Bool.not_eq_false', bne_iff_ne, ne_eq, bne_eq_false_iff_eq, beq_iff_eq, beq_eq_false_iff_ne, decide_eq_true_eq, decide_eq_false_iff_not, gt_iff_lt, ge_iff_le] at h2
    refine At.no rfl rfl rfl rfl ?_
    refine At.no rfl rfl rfl rfl ?_
    refine At.no rfl rfl rfl rfl ?_
    refine At.val (Val.pickT rfl rfl) rfl rfl rfl ?_
    refine At.nil ?_
    exact At.boolEnd rfl (by first | exact (decide_eq_true (by omega)).symm | exact (decide_eq_false (by omega)).symm | (apply Bool.eq_iff_iff.2; simp only [decide_eq_true_eq, beq_iff_eq, bne_iff_ne, ne_eq, Bool.not_eq_true', decide_eq_false_iff_not]; omega) | rfl | (simp_all; done) | (simp_all; omega)) (by repeat (first | exact Sub.nil | refine Sub.cons rfl ?_))
   ·skip
    try simp only [hasB, isSizeB, Bool.not_eq_true', Bool.not_eq_false', bne_iff_ne, ne_eq, bne_eq_false_iff_eq, beq_iff_eq, beq_eq_false_iff_ne, decide_eq_true_eq, decide_eq_false_iff_not, gt_iff_lt, ge_iff_le] at h2
    refine At.yes rfl rfl ?_
    refine tM rfl rfl ?_
    refine At.yes rfl rfl ?_
    first | refine At.val (Val.remI rfl rfl (by omega) (by decide)) rfl rfl rfl ?_ | refine At.val (Val.rem rfl rfl (by decide)) rfl rfl rfl ?_
    refine At.yes rfl rfl ?_
    refine At.val (Val.bin rfl rfl rfl) rfl rfl rfl ?_
    refine At.val (Val.pickF rfl rfl) rfl rfl rfl ?_
    refine At.nil ?_
    exact At.boolEnd rfl (by first | exact (decide_eq_true (by omega)).symm | exact (decide_eq_false (by omega)).symm | (apply Bool.eq_iff_iff.2; simp only [decide_eq_true_eq, beq_iff_eq, bne_iff_ne, ne_eq, Bool.not_eq_true', decide_eq_false_iff_not]; omega) | rfl | (simp_all; done) | (simp_all; omega)) (by repeat (first | exact Sub.nil | refine Sub.cons rfl ?_))
 ·skip
  simp only [List.drop_succ_cons, List.drop_zero]
  refine tE ?_
  refine At.cond rfl (fun h3 => ?_) (fun h3 => ?_)
  ·skip
   try simp only [hasB, isSizeB, Bool.not_eq_true', Bool.not_eq_false', bne_iff_ne, ne_eq, bne_eq_false_iff_eq, beq_iff_eq, beq_eq_false_iff_ne, decide_eq_true_eq, decide_eq_false_iff_not, gt_iff_lt, ge_iff_le] at h3
   refine tR ?_
   refine tA rfl rfl ?_
   refine tA rfl rfl ?_
   refine tE ?_
   refine At.retC ?_
   refine At.thenR ?_
   refine At.ret2 (.inl rfl) rfl rfl rfl rfl (fun w hw => ?_)
   exact ⟨rfl, hw.mod⟩
  ·skip
   try simp only [hasB, isSizeB, Bool.not_eq_true', Bool.not_eq_false', bne_iff_ne, ne_eq, bne_eq_false_iff_eq, beq_iff_eq, beq_eq_false_iff_ne, decide_eq_true_eq, decide_eq_false_iff_not, gt_iff_lt, ge_iff_le] at h3
   cases h3

theorem rWord_k (p : Nat) (γ : Rg) (ρ : Rs) (k j : Nat) (l : Rl) (v0 : BitVec 64) (w : World) (hk : ρ.ls[k]? = some l) (hj : j < 8) (hv0 : l.first[j]? = some v0) (hd : (RDev p γ ρ).holds w) :
    Upd Try.prog 86 [.pointer (some ⟨p, 0, none⟩), .int .i64 (8 * ((8 * k + j : Nat) : Int))] (RDev p γ ρ) (.tuple #[b64 (nowF j v0 l.puts), .int .i64 0]) (RDev p γ ρ) w := by
 refine enterRc hd Try.func86 rfl Try.ntmps86 rfl ?_
 obtain ⟨hQ, hg⟩ := RDev.facts hd
 have hln := hg.len
 have hps := hg.pos
 have hnw := hg.now
 have hkl := (List.getElem?_eq_some_iff.1 hk).1
 simp only [envOf]
 refine tR ?_
 refine tA rfl rfl ?_
 refine tA rfl rfl ?_
 refine tE ?_
 refine tR ?_
 refine tM rfl rfl ?_
 refine tM rfl rfl ?_
 refine At.callK 0 rfl (fun w hw hr => (wrong_at (ρ := ρ) (K := 8 * k + j) (by omega)) ▸ wrong_k _ _ _ _ w hr) Try.call114 rfl rfl ?_
 refine tA rfl rfl ?_
 refine tE ?_
 refine At.seq ?_
 refine tR ?_
 refine tM rfl rfl ?_
 refine At.val (Val.bin rfl rfl rfl) rfl rfl rfl ?_
 refine tE ?_
 refine At.condF rfl ?_
 refine At.skipC ?_
 refine At.thenN ?_
 refine tR ?_
 refine tM rfl rfl ?_
 refine tM rfl rfl ?_
 refine At.callK 0 rfl (fun w hw hr => rnow_k _ _ _ k j l v0 w hk hj hv0 hr) Try.call115 rfl rfl ?_
 refine tA rfl rfl ?_
 refine tE ?_
 refine tR ?_
 refine tM rfl rfl ?_
 refine tA rfl rfl ?_
 refine tA rfl rfl ?_
 refine tE ?_
 refine At.retC ?_
 refine At.ret2 (.inl rfl) rfl rfl rfl rfl (fun w hw => ?_)
 exact ⟨rfl, hw⟩

theorem rWord_no (p : Nat) (γ : Rg) (ρ : Rs) (a : Int) (w : World) (ha : wrongE ρ a ≠ 0) (hd : (RDev p γ ρ).holds w) :
    Upd Try.prog 86 [.pointer (some ⟨p, 0, none⟩), .int .i64 a] (RDev p γ ρ) (.tuple #[.int .u64 0, .int .i64 (wrongE ρ a)]) (RDev p γ ρ) w := by
 refine enterRc hd Try.func86 rfl Try.ntmps86 rfl ?_
 obtain ⟨hQ, hg⟩ := RDev.facts hd
 have hln := hg.len
 have hps := hg.pos
 have hnw := hg.now
 simp only [envOf]
 refine tR ?_
 refine tA rfl rfl ?_
 refine tA rfl rfl ?_
 refine tE ?_
 refine tR ?_
 refine tM rfl rfl ?_
 refine tM rfl rfl ?_
 refine At.callK 0 rfl (fun w hw hr => wrong_k _ _ _ _ w hr) Try.call114 rfl rfl ?_
 refine tA rfl rfl ?_
 refine tE ?_
 refine At.seq ?_
 refine tR ?_
 refine tM rfl rfl ?_
 refine At.val (Val.bin rfl rfl rfl) rfl rfl rfl ?_
 refine tE ?_
 refine At.cond rfl (fun h1 => ?_) (fun h1 => ?_)
 ·skip
  try simp only [hasB, isSizeB, Bool.not_eq_true', Bool.not_eq_false', bne_iff_ne, ne_eq, bne_eq_false_iff_eq, beq_iff_eq, beq_eq_false_iff_ne, decide_eq_true_eq, decide_eq_false_iff_not, gt_iff_lt, ge_iff_le] at h1
  refine tR ?_
  refine tM rfl rfl ?_
  refine tA rfl rfl ?_
  refine tA rfl rfl ?_
  refine tE ?_
  refine At.retC ?_
  refine At.thenR ?_
  refine At.ret2 (.inl rfl) rfl rfl rfl rfl (fun w hw => ?_)
  exact ⟨rfl, hw⟩
 ·skip
  try simp only [hasB, isSizeB, Bool.not_eq_true', Bool.not_eq_false', bne_iff_ne, ne_eq, bne_eq_false_iff_eq, beq_iff_eq, beq_eq_false_iff_ne, decide_eq_true_eq, decide_eq_false_iff_not, gt_iff_lt, ge_iff_le] at h1
  exact absurd h1 ha

end Go.Proofs.Ytkpbpeajkfgfiaa
