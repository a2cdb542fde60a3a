/- Parts of the proof, joined: see the law's text. -/
import Derived.Test.YtfchinibjhcejaaGreatDoorY2
import Derived.Shelf.Sort.Plain
import Derived.Test.YtfchinibjhcejaaGreatDoorChecked
import Derived.Sort.OwnSortedInts
set_option linter.unusedVariables false
set_option linter.unusedSimpArgs false
namespace Go.Proofs.YtfchinibjhcejaaGreatDoor
open Go Go.Wk
def setF (F : Nat) (fl : List Nat) : Nat := fl.foldl (fun t x => if x < F then x else t) 0
theorem setF_snoc (F : Nat) (fl : List Nat) (x : Nat) : setF F (fl ++ [x]) = if x < F then x else setF F fl := by simp [setF]
def oldF (j t : Nat) (v0 : BitVec 64) (l : List (Nat × BitVec 64 × Nat)) : BitVec 64 := l.foldl (fun o c => if c.1 = j ∧ c.2.2 < t then c.2.1 else o) v0
def newsF (j t : Nat) (l : List (Nat × BitVec 64 × Nat)) : List (BitVec 64) := (l.filter fun c => decide (c.1 = j ∧ ¬ c.2.2 < t)).map (·.2.1)
def nowF (j : Nat) (v0 : BitVec 64) (l : List (Nat × BitVec 64 × Nat)) : BitVec 64 := l.foldl (fun o c => if c.1 = j then c.2.1 else o) v0
theorem oldF_snoc (j t : Nat) (v0 : BitVec 64) (l : List (Nat × BitVec 64 × Nat)) (c : Nat × BitVec 64 × Nat) : oldF j t v0 (l ++ [c]) = if c.1 = j ∧ c.2.2 < t then c.2.1 else oldF j t v0 l := by simp [oldF]
theorem nowF_snoc (j : Nat) (v0 : BitVec 64) (l : List (Nat × BitVec 64 × Nat)) (c : Nat × BitVec 64 × Nat) : nowF j v0 (l ++ [c]) = if c.1 = j then c.2.1 else nowF j v0 l := by simp [nowF]
theorem newsF_yes {j t : Nat} {l : List (Nat × BitVec 64 × Nat)} {c : Nat × BitVec 64 × Nat} (h1 : c.1 = j) (h2 : ¬ c.2.2 < t) : newsF j t (l ++ [c]) = newsF j t l ++ [c.2.1] := by
  unfold newsF
  rw [List.filter_append, List.map_append, List.filter_cons_of_pos (p := fun c : Nat × BitVec 64 × Nat => decide (c.1 = j ∧ ¬ c.2.2 < t)) (decide_eq_true ⟨h1, h2⟩), List.filter_nil]; rfl
theorem newsF_no {j t : Nat} {l : List (Nat × BitVec 64 × Nat)} {c : Nat × BitVec 64 × Nat} (h : ¬ (c.1 = j ∧ ¬ c.2.2 < t)) : newsF j t (l ++ [c]) = newsF j t l := by
  unfold newsF
  rw [List.filter_append, List.map_append, List.filter_cons_of_neg (by rw [decide_eq_false h]; simp), List.filter_nil]; exact List.append_nil _
theorem newsF_len (j t : Nat) (l : List (Nat × BitVec 64 × Nat)) : (newsF j t l).length ≤ l.length := by unfold newsF; rw [List.length_map]; exact List.length_filter_le _ _
theorem take_get {α : Type} {l : List α} {k : Nat} {x : α} (h : l[k]? = some x) : l.take (k + 1) = l.take k ++ [x] := by rw [List.take_add_one, h]; rfl
theorem fC_at {l : List Nat} {i x : Nat} (h : l[i]? = some x) : (fC l)[i]? = some (.int .i64 (x : Int)) := by unfold fC; rw [List.getElem?_map, h]; rfl
theorem line_at {Q : List Lq} {ls : List Rl} {k : Nat} {q : Lq} (hQ : Q.map Prod.fst = ls) (hq : Q[k]? = some q) : ls[k]? = some q.1 := by subst hQ; rw [List.getElem?_map, hq]; rfl
theorem settled_k (p : Nat) (γ : Rg) (ρ : Rs) (k : Nat) (l : Rl) (w : World) (hk : ρ.ls[k]? = some l) (hd : (RDev p γ ρ).holds w) :
    Upd Tryz.prog 185 [.pointer (some ⟨p, 0, none⟩), .int .i64 (k : Int)] (RDev p γ ρ) (.int .i64 ((setF ρ.fenced l.fl : Nat) : Int)) (RDev p γ ρ) w := by
 refine enterR hd Tryz.func185 rfl Tryz.ntmps185 rfl ?_
 unfold rdevL
 obtain ⟨hQ, hg⟩ := RDev.facts hd
 have hln := hg.len
 have hps := hg.pos
 have hnw := hg.now
 have h8 := first8_of hQ hg
 have hQl : γ.Q.length = ρ.ls.length := by rw [← hQ, List.length_map]
 have hkl := (List.getElem?_eq_some_iff.1 hk).1
 obtain ⟨q, hq⟩ : ∃ q, γ.Q[k]? = some q := ⟨_, List.getElem?_eq_getElem (by omega)⟩
 have hlq := line_at hQ hq
 obtain ⟨hg1, hg2, hg3, hg4, hg5⟩ := hg.line q.1 (List.mem_of_getElem? hlq)
 obtain rfl : l = q.1 := Option.some.inj (hk.symm.trans hlq)
 simp only [envOf]
 refine tR (tA rfl rfl (tE (tR (tA rfl rfl (tE (tR (tM rfl rfl (tV (Val.nilCheck rfl) rfl (tV (Val.field 0 rfl fo_193_0 rfl) rfl (tV (Val.load (i := 0) Tryz.isAgg191 rfl rfl rfl) rfl (tM rfl rfl (tV (Val.indexRow (i := 1) (k * 10) (by omega) Tryz.underlying191 Tryz.sizeOf190 rfl rfl rfl (by omega) (by omega)) rfl (tV (Val.field ((k * 10 + 9)) rfl fo_190_2 rfl) rfl (tV (Val.loadRow (i := 1) Tryz.isAgg63 rfl rfl (lC_fl h8 hq)) rfl (tA rfl rfl (tE (At.seq (tR (tA rfl rfl (tE (At.block ?_)))))))))))))))))))))
 skip
 refine At.loop (σ := Nat) (fun i => i ≤ q.1.fl.length) (fun i => [(0, .pointer (some ⟨p, 0, none⟩)), (5, .int .i64 ((setF ρ.fenced (q.1.fl.take i) : Nat) : Int)), (6, q.2.2), (7, .int .i64 (i : Int))]) (fun i => [blk p 193 ([γ.vl, .int .i64 (ρ.fenced : Int), .int .i64 (ρ.now : Int), .int .i64 ρ.left]), rowR γ.vl 190 10 (γ.Q.length) (lC γ.Q), fam (lI γ.Q), factR (γ.Q.map Prod.fst = ρ.ls ∧ Rgood ρ)]) (fun i => q.1.fl.length - i) 0 (Nat.zero_le _) (Sub.cons rfl (Sub.cons rfl (Sub.cons rfl (Sub.cons rfl Sub.nil)))) (List.Perm.refl _) ?_
 intro i hs
 refine At.seq (tR (tM rfl rfl (tM rfl rfl (tV (Val.lenO (fam_fls (i := 2) rfl hq) (by decide) Tryz.underlying63 rfl) rfl (tV (Val.bin rfl rfl rfl) rfl (tE ?_))))))
 refine At.cond rfl (fun h1 => ?_) (fun h1 => ?_)
 ·try simp only [hasB, isSizeB, sB] at h1
  obtain ⟨x, hx⟩ : ∃ x, q.1.fl[i]? = some x := ⟨_, List.getElem?_eq_getElem (by omega)⟩
  refine At.skipC (At.thenN (At.seq (At.block (At.seq (At.quiet rfl (by decide +kernel) (qM rfl rfl (qM rfl rfl (qV (Val.indexO (fam_fls (i := 2) rfl hq) i (by omega) Tryz.underlying63 Tryz.sizeOf3 rfl rfl (by omega) (by omega)) rfl (qV (Val.loadO (fam_fls (i := 2) rfl hq) Tryz.isAgg3 rfl (fC_at hx)) rfl (qM rfl rfl (qV (Val.nilCheck rfl) rfl (qV (Val.field 1 rfl fo_193_1 rfl) rfl (qV (Val.load (i := 0) Tryz.isAgg3 rfl rfl rfl) rfl (qV (Val.bin rfl rfl rfl) rfl (QAt.fin (At.thenN ?_))))))))))))))))
  refine At.cond rfl (fun h2 => ?_) (fun h2 => ?_)
  ·try simp only [hasB, isSizeB, sB] at h2
   refine At.region (tM rfl rfl (tM rfl rfl (tV (Val.indexO (fam_fls (i := 2) rfl hq) i (by omega) Tryz.underlying63 Tryz.sizeOf3 rfl rfl (by omega) (by omega)) rfl (tV (Val.loadO (fam_fls (i := 2) rfl hq) Tryz.isAgg3 rfl (fC_at hx)) rfl (tA rfl rfl (At.nil (At.blkN (At.thenN (At.region (tM rfl rfl ?_))))))))))
   first | refine tV (Val.addI rfl rfl (by omega) (by omega)) rfl ?_ | refine tV (Val.bin rfl rfl rfl) rfl ?_
   refine tA rfl rfl (tE ?_)
   exact At.again (i + 1) (show i + 1 ≤ _ by omega) (by omega) (Sub.cons rfl (Sub.cons (congrArg (fun z => some (Value.int IntKind.i64 z)) (by rw [take_get hx, setF_snoc, if_pos (by omega)])) (Sub.cons rfl (Sub.cons (congrArg (fun z => some (Value.int IntKind.i64 z)) (by omega)) Sub.nil)))) (List.Perm.refl _)
  ·try simp only [hasB, isSizeB, sB] at h2
   refine At.skipC (At.blkN (At.thenN (At.region (tM rfl rfl ?_))))
   first | refine tV (Val.addI rfl rfl (by omega) (by omega)) rfl ?_ | refine tV (Val.bin rfl rfl rfl) rfl ?_
   refine tA rfl rfl (tE ?_)
   exact At.again (i + 1) (show i + 1 ≤ _ by omega) (by omega) (Sub.cons rfl (Sub.cons (congrArg (fun z => some (Value.int IntKind.i64 z)) (by rw [take_get hx, setF_snoc, if_neg (by omega)])) (Sub.cons rfl (Sub.cons (congrArg (fun z => some (Value.int IntKind.i64 z)) (by omega)) Sub.nil)))) (List.Perm.refl _)
 ·try simp only [hasB, isSizeB, sB] at h1
  refine At.exitC (At.thenX (At.thenX (At.blkX (At.thenN (tR (tM rfl rfl (tA rfl rfl (tE (At.retC (At.ret1 (.inl rfl) rfl rfl rfl (fun w hw => ?_)))))))))))
  exact ⟨by rw [List.take_of_length_le (by omega)], retR (F := []) hw⟩
theorem rnow_k (p : Nat) (γ : Rg) (ρ : Rs) (k j : Nat) (l : Rl) (v0 : BitVec 64) (w : World) (hk : ρ.ls[k]? = some l) (hj : j < 8) (hv0 : l.first[j]? = some v0) (hd : (RDev p γ ρ).holds w) :
    Upd Tryz.prog 180 [.pointer (some ⟨p, 0, none⟩), .int .i64 (8 * ((8 * k + j : Nat) : Int))] (RDev p γ ρ) (b64 (nowF j v0 l.puts)) (RDev p γ ρ) w := by
 refine enterR hd Tryz.func180 rfl Tryz.ntmps180 rfl ?_
 unfold rdevL
 obtain ⟨hQ, hg⟩ := RDev.facts hd
 have hln := hg.len
 have hps := hg.pos
 have hnw := hg.now
 have h8 := first8_of hQ hg
 have hQl : γ.Q.length = ρ.ls.length := by rw [← hQ, List.length_map]
 have hkl := (List.getElem?_eq_some_iff.1 hk).1
 obtain ⟨q, hq⟩ : ∃ q, γ.Q[k]? = some q := ⟨_, List.getElem?_eq_getElem (by omega)⟩
 have hlq := line_at hQ hq
 obtain ⟨hg1, hg2, hg3, hg4, hg5⟩ := hg.line q.1 (List.mem_of_getElem? hlq)
 obtain rfl : l = q.1 := Option.some.inj (hk.symm.trans hlq)
 simp only [envOf]
 refine tR (tA rfl rfl (tE (tR (tM rfl rfl (tV (Val.quoI rfl rfl (by omega) (by omega) (by decide)) rfl ?_)))))
 rw [show 8 * ((8 * k + j : Nat) : Int) / 8 = ((8 * k + j : Nat) : Int) from by omega]
 refine tV (Val.remI rfl rfl (by omega) (by decide)) rfl ?_
 rw [show ((8 * k + j : Nat) : Int) % 8 = (j : Int) from by omega]
 refine tA rfl rfl (tE (tR (tM rfl rfl (tV (Val.nilCheck rfl) rfl (tV (Val.field 0 rfl fo_193_0 rfl) rfl (tV (Val.load (i := 0) Tryz.isAgg191 rfl rfl rfl) rfl (tM rfl rfl (tV (Val.quoI rfl rfl (by omega) (by omega) (by decide)) rfl ?_))))))))
 rw [show 8 * ((8 * k + j : Nat) : Int) / 64 = (k : Int) from by omega]
 refine tM rfl rfl (tV (Val.indexRow (i := 1) (k * 10) (by omega) Tryz.underlying191 Tryz.sizeOf190 rfl rfl rfl (by omega) (by omega)) rfl (tV (Val.field ((k * 10 + 0)) rfl fo_190_0 rfl) rfl (tV (Val.indexArr (k * 10 + j) (by omega) Tryz.underlying187 Tryz.sizeOf43 rfl rfl (by omega) (by omega)) rfl (tV (Val.loadRow (i := 1) Tryz.isAgg43 rfl rfl (lC_first h8 hq hv0)) rfl (tA rfl rfl (tE (tR (tM rfl rfl (tV (Val.nilCheck rfl) rfl (tV (Val.field 0 rfl fo_193_0 rfl) rfl (tV (Val.load (i := 0) Tryz.isAgg191 rfl rfl rfl) rfl (tM rfl rfl (tV (Val.quoI rfl rfl (by omega) (by omega) (by decide)) rfl ?_)))))))))))))
 rw [show 8 * ((8 * k + j : Nat) : Int) / 64 = (k : Int) from by omega]
 refine tV (Val.indexRow (i := 1) (k * 10) (by omega) Tryz.underlying191 Tryz.sizeOf190 rfl rfl rfl (by omega) (by omega)) rfl (tV (Val.field ((k * 10 + 8)) rfl fo_190_1 rfl) rfl (tV (Val.loadRow (i := 1) Tryz.isAgg188 rfl rfl (lC_puts h8 hq)) rfl (tA rfl rfl (tE (At.seq (tR (tA rfl rfl (tE (At.block ?_)))))))))
 skip
 refine At.loop (σ := Nat) (fun i => i ≤ q.1.puts.length) (fun i => [(0, .pointer (some ⟨p, 0, none⟩)), (5, .int .i64 (j : Int)), (7, q.2.1), (8, .int .i64 (i : Int)), (6, b64 (nowF j v0 (q.1.puts.take i)))]) (fun i => [blk p 193 ([γ.vl, .int .i64 (ρ.fenced : Int), .int .i64 (ρ.now : Int), .int .i64 ρ.left]), rowR γ.vl 190 10 (γ.Q.length) (lC γ.Q), fam (lI γ.Q), factR (γ.Q.map Prod.fst = ρ.ls ∧ Rgood ρ)]) (fun i => q.1.puts.length - i) 0 (Nat.zero_le _) (Sub.cons rfl (Sub.cons rfl (Sub.cons rfl (Sub.cons rfl (Sub.cons rfl Sub.nil))))) (List.Perm.refl _) ?_
 intro i hs
 refine At.seq (tR (tM rfl rfl (tM rfl rfl (tV (Val.lenO (fam_puts (i := 2) rfl hq) (by decide) Tryz.underlying188 rfl) rfl (tV (Val.bin rfl rfl rfl) rfl (tE ?_))))))
 refine At.cond rfl (fun h1 => ?_) (fun h1 => ?_)
 ·try simp only [hasB, isSizeB, sB] at h1
  obtain ⟨x, hx⟩ : ∃ x, q.1.puts[i]? = some x := ⟨_, List.getElem?_eq_getElem (by omega)⟩
  refine At.skipC (At.thenN (At.seq (At.block (tR (tM rfl rfl (tM rfl rfl (tV (Val.indexO (fam_puts (i := 2) rfl hq) (i * 3) (by omega) Tryz.underlying188 Tryz.sizeOf220 rfl rfl (by omega) (by omega)) rfl (tV (Val.field ((i * 3 + 0)) rfl fo_220_0 rfl) rfl (tV (Val.loadO (fam_puts (i := 2) rfl hq) Tryz.isAgg3 rfl (pC_at (i := 0) hx rfl)) rfl (tM rfl rfl (tV (Val.bin rfl rfl rfl) rfl (tE ?_))))))))))))
  refine At.cond rfl (fun h2 => ?_) (fun h2 => ?_)
  ·try simp only [hasB, isSizeB, sB] at h2
   refine At.region (tM rfl rfl (tM rfl rfl (tV (Val.indexO (fam_puts (i := 2) rfl hq) (i * 3) (by omega) Tryz.underlying188 Tryz.sizeOf220 rfl rfl (by omega) (by omega)) rfl (tV (Val.field ((i * 3 + 1)) rfl fo_220_1 rfl) rfl (tV (Val.loadO (fam_puts (i := 2) rfl hq) Tryz.isAgg43 rfl (pC_at (i := 1) hx rfl)) rfl (tA rfl rfl (At.nil (At.blkN (At.thenN (At.region (tM rfl rfl ?_)))))))))))
   first | refine tV (Val.addI rfl rfl (by omega) (by omega)) rfl ?_ | refine tV (Val.bin rfl rfl rfl) rfl ?_
   refine tA rfl rfl (tE ?_)
   exact At.again (i + 1) (show i + 1 ≤ _ by omega) (by omega) (Sub.cons rfl (Sub.cons rfl (Sub.cons rfl (Sub.cons (congrArg (fun z => some (Value.int IntKind.i64 z)) (by omega)) (Sub.cons (congrArg (fun z : BitVec 64 => some (b64 z)) (by rw [take_get hx, nowF_snoc, if_pos (by omega)])) Sub.nil))))) (List.Perm.refl _)
  ·try simp only [hasB, isSizeB, sB] at h2
   refine At.skipC (At.blkN (At.thenN (At.region (tM rfl rfl ?_))))
   first | refine tV (Val.addI rfl rfl (by omega) (by omega)) rfl ?_ | refine tV (Val.bin rfl rfl rfl) rfl ?_
   refine tA rfl rfl (tE ?_)
   exact At.again (i + 1) (show i + 1 ≤ _ by omega) (by omega) (Sub.cons rfl (Sub.cons rfl (Sub.cons rfl (Sub.cons (congrArg (fun z => some (Value.int IntKind.i64 z)) (by omega)) (Sub.cons (congrArg (fun z : BitVec 64 => some (b64 z)) (by rw [take_get hx, nowF_snoc, if_neg (by omega)])) Sub.nil))))) (List.Perm.refl _)
 ·try simp only [hasB, isSizeB, sB] at h1
  refine At.exitC (At.thenX (At.thenX (At.blkX (At.thenN (tR (tM rfl rfl (tA rfl rfl (tE (At.retC (At.ret1 (.inl rfl) rfl rfl rfl (fun w hw => ?_)))))))))))
  exact ⟨by rw [List.take_of_length_le (by omega)], retR (F := []) hw⟩
theorem rword_k (p : Nat) (γ : Rg) (ρ : Rs) (k j : Nat) (l : Rl) (v0 : BitVec 64) (w : World) (hk : ρ.ls[k]? = some l) (hj : j < 8) (hv0 : l.first[j]? = some v0) (hd : (RDev p γ ρ).holds w) :
    RowKT Tryz.prog 169 [.pointer (some ⟨p, 0, none⟩), .int .i64 (8 * ((8 * k + j : Nat) : Int))] (RDev p γ ρ) (fun v' => .tuple #[b64 (oldF j (setF ρ.fenced l.fl) v0 l.puts), v']) tW 1 (newsF j (setF ρ.fenced l.fl) l.puts).length ((newsF j (setF ρ.fenced l.fl) l.puts).map b64) w := by
 refine enterR hd Tryz.func169 rfl Tryz.ntmps169 rfl ?_
 unfold rdevL
 obtain ⟨hQ, hg⟩ := RDev.facts hd
 have hln := hg.len
 have hps := hg.pos
 have hnw := hg.now
 have h8 := first8_of hQ hg
 have hQl : γ.Q.length = ρ.ls.length := by rw [← hQ, List.length_map]
 have hkl := (List.getElem?_eq_some_iff.1 hk).1
 obtain ⟨q, hq⟩ : ∃ q, γ.Q[k]? = some q := ⟨_, List.getElem?_eq_getElem (by omega)⟩
 have hlq := line_at hQ hq
 obtain ⟨hg1, hg2, hg3, hg4, hg5⟩ := hg.line q.1 (List.mem_of_getElem? hlq)
 obtain rfl : l = q.1 := Option.some.inj (hk.symm.trans hlq)
 simp only [envOf]
 refine tR (tA rfl rfl (tA rfl rfl (tE (tR (tM rfl rfl (tV (Val.quoI rfl rfl (by omega) (by omega) (by decide)) rfl ?_))))))
 rw [show 8 * ((8 * k + j : Nat) : Int) / 8 = ((8 * k + j : Nat) : Int) from by omega]
 refine tV (Val.remI rfl rfl (by omega) (by decide)) rfl ?_
 rw [show ((8 * k + j : Nat) : Int) % 8 = (j : Int) from by omega]
 refine tA rfl rfl (tE (tR (tM rfl rfl (tV (Val.nilCheck rfl) rfl (tV (Val.field 0 rfl fo_193_0 rfl) rfl (tV (Val.load (i := 0) Tryz.isAgg191 rfl rfl rfl) rfl (tM rfl rfl (tV (Val.quoI rfl rfl (by omega) (by omega) (by decide)) rfl ?_))))))))
 rw [show 8 * ((8 * k + j : Nat) : Int) / 64 = (k : Int) from by omega]
 refine tM rfl rfl (tV (Val.indexRow (i := 1) (k * 10) (by omega) Tryz.underlying191 Tryz.sizeOf190 rfl rfl rfl (by omega) (by omega)) rfl (tV (Val.field ((k * 10 + 0)) rfl fo_190_0 rfl) rfl (tV (Val.indexArr (k * 10 + j) (by omega) Tryz.underlying187 Tryz.sizeOf43 rfl rfl (by omega) (by omega)) rfl (tV (Val.loadRow (i := 1) Tryz.isAgg43 rfl rfl (lC_first h8 hq hv0)) rfl (tA rfl rfl (tE (tR (tM rfl rfl (tV (Val.nilCheck rfl) rfl (tV (Val.field 0 rfl fo_193_0 rfl) rfl (tV (Val.load (i := 0) Tryz.isAgg191 rfl rfl rfl) rfl (tM rfl rfl (tV (Val.quoI rfl rfl (by omega) (by omega) (by decide)) rfl ?_)))))))))))))
 rw [show 8 * ((8 * k + j : Nat) : Int) / 64 = (k : Int) from by omega]
 refine tV (Val.indexRow (i := 1) (k * 10) (by omega) Tryz.underlying191 Tryz.sizeOf190 rfl rfl rfl (by omega) (by omega)) rfl (tV (Val.field ((k * 10 + 8)) rfl fo_190_1 rfl) rfl (tV (Val.loadRow (i := 1) Tryz.isAgg188 rfl rfl (lC_puts h8 hq)) rfl (tA rfl rfl (tE (At.seq (tR (tM rfl rfl (tV (Val.lenO (fam_puts (i := 2) rfl hq) (by decide) Tryz.underlying188 rfl) rfl (tV (Val.bin rfl rfl rfl) rfl (tE ?_))))))))))
 refine At.cond rfl (fun h1 => ?_) (fun h1 => ?_)
 ·try simp only [hasB, isSizeB, sB] at h1
  refine tR (tM rfl rfl (tA rfl rfl (tA rfl rfl (tE (At.retC (At.thenR (At.ret2 (.inl rfl) rfl rfl rfl rfl (fun w hw => ?_))))))))
  have hp0 : q.1.puts = [] := List.eq_nil_of_length_eq_zero (by omega)
  rw [hp0]
  exact ⟨_, rfl, retRR (F := []) (hw.new (r' := wrow tW (.slice none 0 0) []) (Mod.refl _ _) (World.ownsRow_nil _ 0 _ _) (fun b hb => by simp [rowR, Value.ownBlock] at hb))⟩
 ·try simp only [hasB, isSizeB, sB] at h1
  refine At.skipC (At.thenN (tR (tM rfl rfl (tM rfl rfl (tV (Val.quoI rfl rfl (by omega) (by omega) (by decide)) rfl ?_)))))
  rw [show 8 * ((8 * k + j : Nat) : Int) / 64 = (k : Int) from by omega]
  refine At.callKS (rdevL p γ ρ) rfl (fun w hw hr => settled_k _ _ _ k q.1 w hk hr) Tryz.call185 rfl rfl (tA rfl rfl (tE (tR (tA rfl rfl (At.nil (At.rowNilW 43 (At.thenN (At.seq (tR (tA rfl rfl (tE (At.block ?_))))))))))))
  skip
  refine At.loop (σ := Nat × Value) (fun s => s.1 ≤ q.1.puts.length) (fun s => [(0, .pointer (some ⟨p, 0, none⟩)), (6, .int .i64 (j : Int)), (7, b64 (oldF j (setF ρ.fenced q.1.fl) v0 (q.1.puts.take s.1))), (8, q.2.1), (9, .int .i64 (((setF ρ.fenced q.1.fl) : Nat) : Int)), (10, s.2), (11, .int .i64 (s.1 : Int))]) (fun s => [wrow tW s.2 (newsF j (setF ρ.fenced q.1.fl) (q.1.puts.take s.1)), blk p 193 ([γ.vl, .int .i64 (ρ.fenced : Int), .int .i64 (ρ.now : Int), .int .i64 ρ.left]), rowR γ.vl 190 10 (γ.Q.length) (lC γ.Q), fam (lI γ.Q), factR (γ.Q.map Prod.fst = ρ.ls ∧ Rgood ρ)]) (fun s => q.1.puts.length - s.1) (0, .slice none 0 0) (Nat.zero_le _) (Sub.cons rfl (Sub.cons rfl (Sub.cons rfl (Sub.cons rfl (Sub.cons rfl (Sub.cons rfl (Sub.cons rfl Sub.nil))))))) (List.Perm.refl _) ?_
  intro s hs
  obtain ⟨i, vr⟩ := s
  dsimp only at hs ⊢
  have hnl := newsF_len j (setF ρ.fenced q.1.fl) (q.1.puts.take i)
  rw [List.length_take] at hnl
  refine At.seq (tR (tM rfl rfl (tM rfl rfl (tV (Val.lenO (fam_puts (i := 3) rfl hq) (by decide) Tryz.underlying188 rfl) rfl (tV (Val.bin rfl rfl rfl) rfl (tE ?_))))))
  refine At.cond rfl (fun h2 => ?_) (fun h2 => ?_)
  ·try simp only [hasB, isSizeB, sB] at h2
   obtain ⟨x, hx⟩ : ∃ x, q.1.puts[i]? = some x := ⟨_, List.getElem?_eq_getElem (by omega)⟩
   refine At.skipC (At.thenN (At.seq (At.block (tR (tM rfl rfl (tM rfl rfl (tV (Val.indexO (fam_puts (i := 3) rfl hq) (i * 3) (by omega) Tryz.underlying188 Tryz.sizeOf220 rfl rfl (by omega) (by omega)) rfl (tV (Val.field ((i * 3 + 0)) rfl fo_220_0 rfl) rfl (tV (Val.loadO (fam_puts (i := 3) rfl hq) Tryz.isAgg3 rfl (pC_at (i := 0) hx rfl)) rfl (At.weaken [(0, _), (6, _), (7, _), (8, _), (9, _), (10, _), (11, _), (43, _), (44, _), (45, _), (46, _), (53, _)] (Sub.cons rfl (Sub.cons rfl (Sub.cons rfl (Sub.cons rfl (Sub.cons rfl (Sub.cons rfl (Sub.cons rfl (Sub.cons rfl (Sub.cons rfl (Sub.cons rfl (Sub.cons rfl (Sub.cons rfl Sub.nil)))))))))))) ?_))))))))))
   refine At.boolMeet 11 64 (decide (x.1 = j ∧ x.2.2 < (setF ρ.fenced q.1.fl))) ?_ ?_
   ·simp only [List.take_succ_cons, List.take_zero]
    refine tM rfl rfl (tV (Val.bin rfl rfl rfl) rfl (tM rfl rfl ?_))
    refine At.split (t := 56) rfl (fun h3 => ?_) (fun h3 => ?_)
    ·try simp only [hasB, isSizeB, sB] at h3
     refine At.yes rfl rfl (tM rfl rfl (At.yes rfl rfl (tM rfl rfl (At.yes rfl rfl (tV (Val.indexO (fam_puts (i := 3) rfl hq) (i * 3) (by omega) Tryz.underlying188 Tryz.sizeOf220 rfl rfl (by omega) (by omega)) rfl (At.yes rfl rfl (tV (Val.field ((i * 3 + 2)) rfl fo_220_2 rfl) rfl (At.yes rfl rfl (tV (Val.loadO (fam_puts (i := 3) rfl hq) Tryz.isAgg3 rfl (pC_at (i := 2) hx rfl)) rfl (At.yes rfl rfl (tM rfl rfl (At.yes rfl rfl (tV (Val.bin rfl rfl rfl) rfl (tV (Val.pickT rfl rfl) rfl (At.nil ?_)))))))))))))))
     exact At.boolEnd rfl (by apply Bool.eq_iff_iff.2; (simp only [decide_eq_true_eq, Bool.false_eq_true, false_iff, true_iff, gt_iff_lt, ge_iff_le]) <;> omega) (by repeat (first | exact Sub.nil | refine Sub.cons rfl ?_))
    ·try simp only [hasB, isSizeB, sB] at h3
     refine At.no rfl rfl rfl rfl (At.no rfl rfl rfl rfl (At.no rfl rfl rfl rfl (At.no rfl rfl rfl rfl (At.no rfl rfl rfl rfl (At.no rfl rfl rfl rfl (At.no rfl rfl rfl rfl (tV (Val.pickF rfl rfl) rfl (At.nil ?_))))))))
     exact At.boolEnd rfl (by apply Bool.eq_iff_iff.2; (simp only [decide_eq_true_eq, Bool.false_eq_true, false_iff, true_iff, gt_iff_lt, ge_iff_le]) <;> omega) (by repeat (first | exact Sub.nil | refine Sub.cons rfl ?_))
   ·simp only [List.drop_succ_cons, List.drop_zero]
    refine tE ?_
    refine At.cond rfl (fun h4 => ?_) (fun h4 => ?_)
    ·try simp only [hasB, isSizeB, sB] at h4
     refine At.region (tM rfl rfl (tM rfl rfl (tV (Val.indexO (fam_puts (i := 3) rfl hq) (i * 3) (by omega) Tryz.underlying188 Tryz.sizeOf220 rfl rfl (by omega) (by omega)) rfl (tV (Val.field ((i * 3 + 1)) rfl fo_220_1 rfl) rfl (tV (Val.loadO (fam_puts (i := 3) rfl hq) Tryz.isAgg43 rfl (pC_at (i := 1) hx rfl)) rfl (tA rfl rfl (At.nil (At.blkN (At.thenN (At.region (tM rfl rfl ?_)))))))))))
     first | refine tV (Val.addI rfl rfl (by omega) (by omega)) rfl ?_ | refine tV (Val.bin rfl rfl rfl) rfl ?_
     refine tA rfl rfl (tE ?_)
     exact At.again (i + 1, vr) (show i + 1 ≤ _ by omega) (by dsimp only; omega) (Sub.cons rfl (Sub.cons rfl (Sub.cons (congrArg (fun z : BitVec 64 => some (b64 z)) (by rw [take_get hx, oldF_snoc, if_pos (by omega)])) (Sub.cons rfl (Sub.cons rfl (Sub.cons rfl (Sub.cons (congrArg (fun z => some (Value.int IntKind.i64 z)) (by omega)) Sub.nil))))))) (by dsimp only; rw [take_get hx, newsF_no (by omega)])
    ·try simp only [hasB, isSizeB, sB] at h4
     refine tR (tM rfl rfl (tM rfl rfl (tV (Val.indexO (fam_puts (i := 3) rfl hq) (i * 3) (by omega) Tryz.underlying188 Tryz.sizeOf220 rfl rfl (by omega) (by omega)) rfl (tV (Val.field ((i * 3 + 0)) rfl fo_220_0 rfl) rfl (tV (Val.loadO (fam_puts (i := 3) rfl hq) Tryz.isAgg3 rfl (pC_at (i := 0) hx rfl)) rfl (tM rfl rfl (tV (Val.bin rfl rfl rfl) rfl (tE ?_))))))))
     refine At.cond rfl (fun h5 => ?_) (fun h5 => ?_)
     ·try simp only [hasB, isSizeB, sB] at h5
      refine At.region (tM rfl rfl (tM rfl rfl (tM rfl rfl (tV (Val.indexO (fam_puts (i := 3) rfl hq) (i * 3) (by omega) Tryz.underlying188 Tryz.sizeOf220 rfl rfl (by omega) (by omega)) rfl (tV (Val.field ((i * 3 + 1)) rfl fo_220_1 rfl) rfl (tV (Val.loadO (fam_puts (i := 3) rfl hq) Tryz.isAgg43 rfl (pC_at (i := 1) hx rfl)) rfl (At.buildSl (fun a ha => by simp only [List.map_toArray, List.map_cons, List.map_nil, ha.eval (x := (.tmp 82)) rfl]; try rfl) (bs_98_1 _ ) rfl (fun b6 => (At.appendWs (i := 1) (j := 0) (ms := [x.2.1]) (by_ := 8) Tryz.underlying98 info_43 rfl rfl rfl rfl rfl rfl rfl rfl rfl (by omega) (by omega) rfl (fun v7 => ?_))))))))))
      simp only [sc0, scS]
      refine At.drop 0 ?_
      simp only [ec0, ecS]
      refine tA rfl rfl (At.nil (At.blkN (At.thenN (At.region (tM rfl rfl ?_)))))
      first | refine tV (Val.addI rfl rfl (by omega) (by omega)) rfl ?_ | refine tV (Val.bin rfl rfl rfl) rfl ?_
      refine tA rfl rfl (tE ?_)
      exact At.again (i + 1, v7) (show i + 1 ≤ _ by omega) (by dsimp only; omega) (Sub.cons rfl (Sub.cons rfl (Sub.cons (congrArg (fun z : BitVec 64 => some (b64 z)) (by rw [take_get hx, oldF_snoc, if_neg (by omega)])) (Sub.cons rfl (Sub.cons rfl (Sub.cons rfl (Sub.cons (congrArg (fun z => some (Value.int IntKind.i64 z)) (by omega)) Sub.nil))))))) (by dsimp only; rw [take_get hx, newsF_yes (by omega) (by omega)])
     ·try simp only [hasB, isSizeB, sB] at h5
      refine At.skipC (At.blkN (At.thenN (At.region (tM rfl rfl ?_))))
      first | refine tV (Val.addI rfl rfl (by omega) (by omega)) rfl ?_ | refine tV (Val.bin rfl rfl rfl) rfl ?_
      refine tA rfl rfl (tE ?_)
      exact At.again (i + 1, vr) (show i + 1 ≤ _ by omega) (by dsimp only; omega) (Sub.cons rfl (Sub.cons rfl (Sub.cons (congrArg (fun z : BitVec 64 => some (b64 z)) (by rw [take_get hx, oldF_snoc, if_neg (by omega)])) (Sub.cons rfl (Sub.cons rfl (Sub.cons rfl (Sub.cons (congrArg (fun z => some (Value.int IntKind.i64 z)) (by omega)) Sub.nil))))))) (by dsimp only; rw [take_get hx, newsF_no (by omega)])
  ·try simp only [hasB, isSizeB, sB] at h2
   refine At.exitC (At.thenX (At.thenX (At.blkX (At.thenN (tR (tM rfl rfl (tM rfl rfl (tA rfl rfl (tA rfl rfl (tE (At.retC (At.ret2 (.inl rfl) rfl rfl rfl rfl (fun w hw => ?_)))))))))))))
   rw [List.take_of_length_le (by omega)] at hw ⊢
   exact ⟨_, rfl, retRR (F := []) hw⟩
end Go.Proofs.YtfchinibjhcejaaGreatDoor
namespace Go.Proofs.YtfchinibjhcejaaGreatDoor
open Go Go.Wk
def flushL (ρ : Rs) (k : Nat) (l : Rl) : Rs := { stepR ρ with ls := ρ.ls.set k { l with fl := l.fl ++ [ρ.now + 1] } }
def storeL (ρ : Rs) (k j : Nat) (l : Rl) (x : BitVec 64) : Rs := { stepR ρ with ls := ρ.ls.set k { l with puts := l.puts ++ [(j, x, ρ.now + 1)] } }
theorem mem_setR {ls : List Rl} {k : Nat} {a l : Rl} (h : l ∈ ls.set k a) : l = a ∨ l ∈ ls := by
  rcases List.mem_or_eq_of_mem_set h with h | h
  · exact .inr h
  · exact .inl h
theorem flushL_good {ρ : Rs} {k : Nat} {l : Rl} (h : Rgood ρ) (hk : ρ.ls[k]? = some l) (hs : ρ.now + 1 ≤ 1099511627776) : Rgood (flushL ρ k l) := by
  have h1 := stepR_good h hs
  obtain ⟨g1, g2, g3, g4, g5⟩ := h1.line l (List.mem_of_getElem? hk)
  have g3' := (h.line l (List.mem_of_getElem? hk)).2.2.1
  refine ⟨by simpa [flushL] using h.pos, by simpa [flushL] using h.len, hs, h1.fen, h1.left, fun m hm => ?_⟩
  rcases mem_setR hm with rfl | hm
  · refine ⟨g1, g2, ?_, g4, fun t ht => ?_⟩
    · show (l.fl ++ [ρ.now + 1]).length ≤ ρ.now + 1
      rw [List.length_append, List.length_singleton]; omega
    · rcases List.mem_append.1 ht with ht | ht
      · exact g5 t ht
      · rw [List.mem_singleton.1 ht]; exact Nat.le_refl _
  · exact h1.line m hm
theorem storeL_good {ρ : Rs} {k j : Nat} {l : Rl} {x : BitVec 64} (h : Rgood ρ) (hk : ρ.ls[k]? = some l) (hj : j < 8) (hs : ρ.now + 1 ≤ 1099511627776) : Rgood (storeL ρ k j l x) := by
  have h1 := stepR_good h hs
  obtain ⟨g1, g2, g3, g4, g5⟩ := h1.line l (List.mem_of_getElem? hk)
  have g2' := (h.line l (List.mem_of_getElem? hk)).2.1
  refine ⟨by simpa [storeL] using h.pos, by simpa [storeL] using h.len, hs, h1.fen, h1.left, fun m hm => ?_⟩
  rcases mem_setR hm with rfl | hm
  · refine ⟨g1, ?_, g3, fun c hc => ?_, g5⟩
    · show (l.puts ++ [(j, x, ρ.now + 1)]).length ≤ ρ.now + 1
      rw [List.length_append, List.length_singleton]; omega
    · rcases List.mem_append.1 hc with hc | hc
      · exact g4 c hc
      · rw [List.mem_singleton.1 hc]; exact ⟨hj, Nat.le_refl _⟩
  · exact h1.line m hm
theorem wrong_at {ρ : Rs} {K : Nat} (h : K < 8 * ρ.ls.length) : wrongE ρ (8 * (K : Int)) = 0 := by unfold wrongE; rw [if_pos (by omega), if_pos (by omega)]
def zL : Rl := ⟨List.replicate 8 0, [], []⟩
def zeroR (M : Nat) : Rs := ⟨List.replicate M zL, 0, 0, -1⟩
def nilQ (ls : List Rl) : List Lq := ls.map fun l => (l, .slice none 0 0, .slice none 0 0)
theorem nilQ_fst (ls : List Rl) : (nilQ ls).map Prod.fst = ls := by unfold nilQ; rw [List.map_map]; exact List.map_id _
theorem nilQ_at {ls : List Rl} {k : Nat} {q : Lq} (h : (nilQ ls)[k]? = some q) : ∃ l, ls[k]? = some l ∧ q = (l, .slice none 0 0, .slice none 0 0) := by
  unfold nilQ at h
  rw [List.getElem?_map] at h
  cases hl : ls[k]? with
  | none => rw [hl] at h; cases h
  | some l => rw [hl] at h; exact ⟨l, rfl, (Option.some.inj h).symm⟩
theorem nil_foot {l : Rl} (hp : l.puts = []) (hf : l.fl = []) {b : Nat} (h : (star [purow (.slice none 0 0) l.puts, flrow (.slice none 0 0) l.fl]).foot b) : False := by
  obtain ⟨r, hr, hb⟩ := h
  simp only [List.mem_cons, List.not_mem_nil, or_false] at hr
  rcases hr with rfl | rfl
  · simp [purow, rowR, Value.ownBlock] at hb
  · simp [flrow, rowR, Value.ownBlock] at hb
theorem Rep.famNone {w0 w : World} {S : Nat → Prop} {H : List Res} {ls : List Rl} (hn : ∀ l ∈ ls, l.puts = [] ∧ l.fl = []) (h : Rep w0 S H w) : Rep w0 S (fam (lI (nilQ ls)) :: H) w := by
  have key : ∀ k r, lI (nilQ ls) k = some r → ∃ l, l ∈ ls ∧ r = star [purow (.slice none 0 0) l.puts, flrow (.slice none 0 0) l.fl] := by
    intro k r hr
    unfold lI at hr
    cases hq : (nilQ ls)[k]? with
    | none => rw [hq] at hr; cases hr
    | some q =>
      rw [hq] at hr
      obtain ⟨l, hl, rfl⟩ := nilQ_at hq
      exact ⟨l, List.mem_of_getElem? hl, (Option.some.inj hr).symm⟩
  have hfoot : ∀ b, (fam (lI (nilQ ls))).foot b → False := fun b ⟨k, r, hr, hb⟩ => by
    obtain ⟨l, hl, rfl⟩ := key k r hr
    exact nil_foot (hn l hl).1 (hn l hl).2 hb
  refine ⟨List.pairwise_cons.2 ⟨fun s _ b hb _ => hfoot b hb, h.sep⟩, fun r hr => ?_, fun r hr b hb => ?_, h.mod⟩
  · rcases List.mem_cons.1 hr with rfl | h1
    · refine ⟨fun k r hr => ?_, fun k k' r r' hr _ _ b hb _ => ?_⟩
      · obtain ⟨l, hl, rfl⟩ := key k r hr
        obtain ⟨h1, h2⟩ := hn l hl
        rw [h1, h2]
        refine ⟨by refine List.pairwise_cons.2 ⟨fun s _ b hb _ => ?_, by simp⟩; simp [purow, rowR, Value.ownBlock] at hb, fun r hr => ?_⟩
        simp only [List.mem_cons, List.not_mem_nil, or_false] at hr
        rcases hr with rfl | rfl
        · exact World.ownsRow_nil w 0 tPu 3
        · exact World.ownsRow_nil w 0 tI 1
      · obtain ⟨l, hl, rfl⟩ := key k r hr
        exact (nil_foot (hn l hl).1 (hn l hl).2 hb).elim
    · exact h.all r h1
  · rcases List.mem_cons.1 hr with rfl | h1
    · exact (hfoot b hb).elim
    · exact h.mine r h1 b hb
theorem At.famNone {Γ : Ctx} {E : Env} {H : List Res} {φ : Act → World → Prop} {ls : List Rl} (hn : ∀ l ∈ ls, l.puts = [] ∧ l.fl = []) (k : At Γ E (fam (lI (nilQ ls)) :: H) φ) : At Γ E H φ := fun a w ha hw => k a w ha (Rep.famNone hn hw)
abbrev zCells : List Value := [.int .u64 0, .int .u64 0, .int .u64 0, .int .u64 0, .int .u64 0, .int .u64 0, .int .u64 0, .int .u64 0, .slice none 0 0, .slice none 0 0]
theorem lC_zero : ∀ (M : Nat), lC (nilQ (List.replicate M zL)) = (List.replicate M zCells).flatten
  | 0 => rfl
  | M + 1 => by
    have := lC_zero M
    rw [List.replicate_succ, List.replicate_succ, List.flatten_cons, ← this]; rfl
theorem made_lines (M : Nat) : (madeCells zCells.toArray (M * 10)).toList = lC (nilQ (List.replicate M zL)) := by
  rw [lC_zero]
  apply List.ext_getElem?
  intro i
  have hl : (madeCells zCells.toArray (M * 10)).toList.length = M * 10 := by simp [madeCells]
  have hl2 : (List.replicate M zCells).flatten.length = M * 10 := by simp [List.length_flatten, List.map_replicate, List.sum_replicate_nat]
  rcases Nat.lt_or_ge i (M * 10) with h | h
  · rw [List.getElem?_eq_getElem (by rw [hl]; exact h)]
    have e1 : (madeCells zCells.toArray (M * 10)).toList[i]'(by rw [hl]; exact h) = (zCells[i % 10]?).getD undef := by
      simp [madeCells, List.getElem?_eq_getElem (show i % 10 < zCells.length from Nat.mod_lt _ (by decide))]
    rw [e1]
    have key : ∀ (M i : Nat), i < M * 10 → (List.replicate M zCells).flatten[i]? = zCells[i % 10]? := by
      intro M
      induction M with
      | zero => intro i hi; omega
      | succ M ih =>
        intro i hi
        rw [List.replicate_succ, List.flatten_cons]
        rcases Nat.lt_or_ge i 10 with h1 | h1
        · rw [List.getElem?_append_left (by simpa using h1), Nat.mod_eq_of_lt h1]
        · rw [List.getElem?_append_right (by simpa using h1), show zCells.length = 10 from rfl, ih (i - 10) (by omega), show (i - 10) % 10 = i % 10 by omega]
    rw [key M i h]
    have h10 : i % 10 < zCells.length := Nat.mod_lt _ (by decide)
    rw [List.getElem?_eq_getElem h10]; rfl
  · rw [List.getElem?_eq_none (by rw [hl]; exact h), List.getElem?_eq_none (by rw [hl2]; exact h)]
theorem zeroR_good {M : Nat} (h0 : 0 < M) (h1 : M ≤ 8192) : Rgood (zeroR M) := by
  refine ⟨by simpa [zeroR] using h0, by simpa [zeroR] using h1, Nat.zero_le _, Nat.le_refl _, ⟨by simp [zeroR], by simp [zeroR]⟩, fun l hl => ?_⟩
  obtain rfl := (List.mem_replicate.1 hl).2
  exact ⟨rfl, Nat.le_refl _, Nat.le_refl _, by simp [zL], by simp [zL]⟩
theorem info_190 : Tryz.prog.info? 190 = some Tryz.t190 := by kernel_rfl
theorem nilQ_len (ls : List Rl) : (nilQ ls).length = ls.length := List.length_map ..
theorem rflush_d (p : Nat) (γ : Rg) (ρ : Rs) (a : Int) (k : Nat) (l : Rl) (w : World) (hk : ρ.ls[k]? = some l) (h0 : 64 * (k : Int) ≤ a) (h1 : a < 64 * (k : Int) + 64) (hs : ρ.now + 1 ≤ 1099511627776) (hno : ρ.left ≠ 0) (hd : (RDev p γ ρ).holds w) :
    RDevU Tryz.prog 168 [.pointer (some ⟨p, 0, none⟩), .int .i64 a] p γ ρ (.int .i64 0) (flushL ρ k l) w := by
 refine enterRc hd Tryz.func168 rfl Tryz.ntmps168 rfl ?_
 obtain ⟨hQ, hg⟩ := RDev.facts hd
 have hln := hg.len
 have hps := hg.pos
 have hnw := hg.now
 have hkl := (List.getElem?_eq_some_iff.1 hk).1
 simp only [envOf]
 refine tR (tA rfl rfl (tE (At.seq (tR (tM rfl rfl (tV (Val.bin rfl rfl rfl) rfl (tM rfl rfl ?_)))))))
 refine At.split (t := 9) rfl (fun h1 => ?_) (fun h1 => ?_)
 ·try simp only [hasB, isSizeB, sB] at h1
  omega
 ·try simp only [hasB, isSizeB, sB] at h1
  refine At.yes rfl rfl (tM rfl rfl (At.yes rfl rfl (tM rfl rfl (At.yes rfl rfl (At.callK 0 rfl (fun w hw hr => rsize_k _ _ _ w hr) Tryz.call132 rfl rfl (At.yes rfl rfl (tV (Val.bin rfl rfl rfl) rfl (tV (Val.pickF rfl rfl) rfl (tE ?_)))))))))
  refine At.cond rfl (fun h2 => ?_) (fun h2 => ?_)
  ·try simp only [hasB, isSizeB, sB] at h2
   omega
  ·try simp only [hasB, isSizeB, sB] at h2
   refine At.skipC (At.thenN (tR (tM rfl rfl (At.callRD 0 rfl (fun w hw hr => rstep_d _ _ _ w hs hno hr) Tryz.call166 rfl rfl (fun y3 => ?_)))))
   simp only [sc0, scS]
   refine tA rfl rfl (tE (At.seq (tR (tM rfl rfl (tV (Val.bin rfl rfl rfl) rfl (tE ?_))))))
   refine At.cond rfl (fun h4 => ?_) (fun h4 => ?_)
   ·try simp only [hasB, isSizeB, sB] at h4
    omega
   ·try simp only [hasB, isSizeB, sB] at h4
    refine At.skipC (At.thenN (At.seq (At.openS 0 rfl ?_)))
    simp only [rdevL, List.cons_append, List.nil_append, ec0, ecS]
    refine At.fact 3 rfl (fun hf => ?_)
    obtain ⟨hQ1, hg1⟩ := hf
    have h81 := first8_of hQ1 hg1
    have hQl1 : y3.Q.length = (stepR ρ).ls.length := by rw [← hQ1, List.length_map]
    obtain ⟨q, hq⟩ : ∃ q, y3.Q[k]? = some q := ⟨_, List.getElem?_eq_getElem (by rw [hQl1]; exact hkl)⟩
    have hlq := line_at hQ1 hq
    obtain rfl : l = q.1 := Option.some.inj (hk.symm.trans hlq)
    obtain ⟨hg11, hg12, hg13, hg14, hg15⟩ := hg1.line q.1 (List.mem_of_getElem? hlq)
    have hg13n := (hg.line q.1 (List.mem_of_getElem? hk)).2
    have hkQ : k < y3.Q.length := by rw [hQl1]; exact hkl
    refine At.region (tM rfl rfl (tV (Val.nilCheck rfl) rfl (tV (Val.field 0 rfl fo_193_0 rfl) rfl (tV (Val.load (i := 0) Tryz.isAgg191 rfl rfl rfl) rfl (tM rfl rfl (tV (Val.quoI rfl rfl (by omega) (by omega) (by decide)) rfl ?_))))))
    rw [show a / 64 = (k : Int) from by omega]
    refine tV (Val.indexRow (i := 1) (k * 10) (by omega) Tryz.underlying191 Tryz.sizeOf190 rfl rfl rfl (by omega) (by omega)) rfl (tA rfl rfl (tE (tR (tM rfl rfl (tM rfl rfl (tV (Val.nilCheck rfl) rfl (tV (Val.field ((k * 10 + 9)) rfl fo_190_2 rfl) rfl (tV (Val.loadRow (i := 1) Tryz.isAgg63 rfl rfl (lC_fl h81 hq)) rfl (tM rfl rfl (At.buildSl (fun a ha => by simp only [List.map_toArray, List.map_cons, List.map_nil, ha.eval (x := (.tmp 31)) rfl]; try rfl) (bs_63_1 _ ) rfl (fun b5 => (At.focusL 3 rfl hq ?_))))))))))))
    simp only [ec0, ecS]
    refine At.appendFl (i := 1) (j := 3) (by_ := 8) (c := ρ.now + 1) Tryz.underlying63 info_3 rfl rfl rfl rfl rfl rfl rfl rfl rfl (by omega) (by omega) rfl (fun v6 => ?_)
    simp only [sc0, scS]
    refine At.drop 3 ?_
    simp only [ec0, ecS]
    refine tV (Val.nilCheck rfl) rfl (tV (Val.field ((k * 10 + 9)) rfl fo_190_2 rfl) rfl (At.rowOne (i := 1) rfl (fun ho => ?_)))
    refine At.storeRow (i := 4) Tryz.sizeOf63 rfl rfl ho rfl (by rw [lC_length h81]; omega) ?_
    simp only [sc0, scS]
    rw [lC_setFl (l' := { q.1 with fl := q.1.fl ++ [ρ.now + 1] }) h81 hq rfl]
    refine At.unfocusL (q' := ({ q.1 with fl := q.1.fl ++ [ρ.now + 1] }, q.2.1, v6)) hkQ (At.rot2 (tE (tR (tA rfl rfl (tE (At.retC (At.ret1 (.inl rfl) rfl rfl rfl (fun w hw => ?_))))))))
    exact ⟨⟨y3.vl, y3.Q.set k ({ q.1 with fl := q.1.fl ++ [ρ.now + 1] }, q.2.1, v6)⟩, rfl, toRDev1 (by show (List.set _ _ _).map _ = List.set _ _ _; rw [List.map_set, hQ1]; rfl) (flushL_good hg hk hs) hw rfl (by rw [List.length_set]) rfl⟩
theorem rflush_0 (p : Nat) (γ : Rg) (ρ : Rs) (a : Int) (w : World) (h0 : 0 ≤ a) (h1 : a < 64 * (ρ.ls.length : Int)) (hno : ρ.left = 0) (hd : (RDev p γ ρ).holds w) :
    Upd Tryz.prog 168 [.pointer (some ⟨p, 0, none⟩), .int .i64 a] (RDev p γ ρ) (.int .i64 13) (RDev p γ ρ) w := by
 refine enterRc hd Tryz.func168 rfl Tryz.ntmps168 rfl ?_
 obtain ⟨hQ, hg⟩ := RDev.facts hd
 have hln := hg.len
 have hps := hg.pos
 have hnw := hg.now
 simp only [envOf]
 refine tR (tA rfl rfl (tE (At.seq (tR (tM rfl rfl (tV (Val.bin rfl rfl rfl) rfl (tM rfl rfl ?_)))))))
 refine At.split (t := 9) rfl (fun h1 => ?_) (fun h1 => ?_)
 ·try simp only [hasB, isSizeB, sB] at h1
  omega
 ·try simp only [hasB, isSizeB, sB] at h1
  refine At.yes rfl rfl (tM rfl rfl (At.yes rfl rfl (tM rfl rfl (At.yes rfl rfl (At.callK 0 rfl (fun w hw hr => rsize_k _ _ _ w hr) Tryz.call132 rfl rfl (At.yes rfl rfl (tV (Val.bin rfl rfl rfl) rfl (tV (Val.pickF rfl rfl) rfl (tE ?_)))))))))
  refine At.cond rfl (fun h2 => ?_) (fun h2 => ?_)
  ·try simp only [hasB, isSizeB, sB] at h2
   omega
  ·try simp only [hasB, isSizeB, sB] at h2
   refine At.skipC (At.thenN (tR (tM rfl rfl (At.callK 0 rfl (fun w hw hr => rstep_0 _ _ _ w hno hr) Tryz.call166 rfl rfl (tA rfl rfl (tE (At.seq (tR (tM rfl rfl (tV (Val.bin rfl rfl rfl) rfl (tE (At.condT rfl (tR (tA rfl rfl (tE (At.retC (At.thenR (At.ret1 (.inl rfl) rfl rfl rfl (fun w hw => ?_)))))))))))))))))))
   exact ⟨rfl, hw⟩
theorem rstore_d (p : Nat) (γ : Rg) (ρ : Rs) (k j : Nat) (l : Rl) (x : BitVec 64) (w : World) (hk : ρ.ls[k]? = some l) (hj : j < 8) (hs : ρ.now + 1 ≤ 1099511627776) (hno : ρ.left ≠ 0) (hd : (RDev p γ ρ).holds w) :
    RDevU Tryz.prog 130 [.pointer (some ⟨p, 0, none⟩), .int .i64 (8 * ((8 * k + j : Nat) : Int)), b64 x] p γ ρ (.int .i64 0) (storeL ρ k j l x) w := by
 refine enterRc hd Tryz.func130 rfl Tryz.ntmps130 rfl ?_
 obtain ⟨hQ, hg⟩ := RDev.facts hd
 have hln := hg.len
 have hps := hg.pos
 have hnw := hg.now
 have hkl := (List.getElem?_eq_some_iff.1 hk).1
 simp only [envOf]
 refine tR (tA rfl rfl (tE (tR (tM rfl rfl (tM rfl rfl (At.callK 0 rfl (fun w hw hr => (wrong_at (ρ := ρ) (K := 8 * k + j) (by omega)) ▸ wrong_k _ _ _ _ w hr) Tryz.call165 rfl rfl (tA rfl rfl (tE (At.seq (tR (tM rfl rfl (tV (Val.bin rfl rfl rfl) rfl (tE (At.condF rfl (At.skipC (At.thenN (tR (tM rfl rfl (At.callRD 0 rfl (fun w hw hr => rstep_d _ _ _ w hs hno hr) Tryz.call166 rfl rfl (fun y1 => ?_))))))))))))))))))))
 simp only [sc0, scS]
 refine tA rfl rfl (tE (At.seq (tR (tM rfl rfl (tV (Val.bin rfl rfl rfl) rfl (tE ?_))))))
 refine At.cond rfl (fun h2 => ?_) (fun h2 => ?_)
 ·try simp only [hasB, isSizeB, sB] at h2
  omega
 ·try simp only [hasB, isSizeB, sB] at h2
  refine At.skipC (At.thenN (At.seq (At.openS 0 rfl ?_)))
  simp only [rdevL, List.cons_append, List.nil_append, ec0, ecS]
  refine At.fact 3 rfl (fun hf => ?_)
  obtain ⟨hQ1, hg1⟩ := hf
  have h81 := first8_of hQ1 hg1
  have hQl1 : y1.Q.length = (stepR ρ).ls.length := by rw [← hQ1, List.length_map]
  obtain ⟨q, hq⟩ : ∃ q, y1.Q[k]? = some q := ⟨_, List.getElem?_eq_getElem (by rw [hQl1]; exact hkl)⟩
  have hlq := line_at hQ1 hq
  obtain rfl : l = q.1 := Option.some.inj (hk.symm.trans hlq)
  obtain ⟨hg11, hg12, hg13, hg14, hg15⟩ := hg1.line q.1 (List.mem_of_getElem? hlq)
  have hg13n := (hg.line q.1 (List.mem_of_getElem? hk)).2
  have hkQ : k < y1.Q.length := by rw [hQl1]; exact hkl
  refine At.region (tM rfl rfl (tV (Val.nilCheck rfl) rfl (tV (Val.field 0 rfl fo_193_0 rfl) rfl (tV (Val.load (i := 0) Tryz.isAgg191 rfl rfl rfl) rfl (tM rfl rfl (tV (Val.quoI rfl rfl (by omega) (by omega) (by decide)) rfl ?_))))))
  rw [show 8 * ((8 * k + j : Nat) : Int) / 64 = (k : Int) from by omega]
  refine tV (Val.indexRow (i := 1) (k * 10) (by omega) Tryz.underlying191 Tryz.sizeOf190 rfl rfl rfl (by omega) (by omega)) rfl (tA rfl rfl (tE (tR (tM rfl rfl (tM rfl rfl (tV (Val.nilCheck rfl) rfl (tV (Val.field ((k * 10 + 8)) rfl fo_190_1 rfl) rfl (tV (Val.loadRow (i := 1) Tryz.isAgg188 rfl rfl (lC_puts h81 hq)) rfl (tM rfl rfl (tV (Val.quoI rfl rfl (by omega) (by omega) (by decide)) rfl ?_))))))))))
  rw [show 8 * ((8 * k + j : Nat) : Int) / 8 = ((8 * k + j : Nat) : Int) from by omega]
  refine tV (Val.remI rfl rfl (by omega) (by decide)) rfl ?_
  rw [show ((8 * k + j : Nat) : Int) % 8 = (j : Int) from by omega]
  refine tM rfl rfl (tM rfl rfl ?_)
  refine tV (Val.build (fun a ha => by simp only [List.map_toArray, List.map_cons, List.map_nil, ha.eval (x := (.tmp 34)) rfl, ha.eval (x := (.tmp 35)) rfl, ha.eval (x := (.tmp 36)) rfl] <;> rfl) (bld_220_0_1_2 _ _ _ )) rfl (At.buildSl (fun a ha => by simp only [List.map_toArray, List.map_cons, List.map_nil, ha.eval (x := (.tmp 37)) rfl]; try rfl) (bs_188_1 _ _ _ ) rfl (fun b3 => (At.focusL 3 rfl hq ?_)))
  simp only [ec0, ecS]
  refine At.appendPu (i := 0) (j := 3) (by_ := 24) (c := (j, x, ρ.now + 1)) Tryz.underlying188 info_220 rfl rfl rfl rfl rfl rfl rfl rfl rfl (by omega) (by omega) rfl (fun v4 => ?_)
  simp only [sc0, scS]
  refine At.drop 3 ?_
  simp only [ec0, ecS]
  refine tV (Val.nilCheck rfl) rfl (tV (Val.field ((k * 10 + 8)) rfl fo_190_1 rfl) rfl (At.rowOne (i := 0) rfl (fun ho => ?_)))
  refine At.storeRow (i := 4) Tryz.sizeOf188 rfl rfl ho rfl (by rw [lC_length h81]; omega) ?_
  simp only [sc0, scS]
  rw [lC_setPuts (l' := { q.1 with puts := q.1.puts ++ [(j, x, ρ.now + 1)] }) h81 hq rfl]
  refine At.unfocusL (q' := ({ q.1 with puts := q.1.puts ++ [(j, x, ρ.now + 1)] }, v4, q.2.2)) hkQ (At.rot2 (tE (tR (tA rfl rfl (tE (At.retC (At.ret1 (.inl rfl) rfl rfl rfl (fun w hw => ?_))))))))
  exact ⟨⟨y1.vl, y1.Q.set k ({ q.1 with puts := q.1.puts ++ [(j, x, ρ.now + 1)] }, v4, q.2.2)⟩, rfl, toRDev1 (by show (List.set _ _ _).map _ = List.set _ _ _; rw [List.map_set, hQ1]; rfl) (storeL_good hg hk hj hs) hw rfl (by rw [List.length_set]) rfl⟩
theorem rstore_0 (p : Nat) (γ : Rg) (ρ : Rs) (a : Int) (x : BitVec 64) (w : World) (ha : wrongE ρ a = 0) (hno : ρ.left = 0) (hd : (RDev p γ ρ).holds w) :
    Upd Tryz.prog 130 [.pointer (some ⟨p, 0, none⟩), .int .i64 a, b64 x] (RDev p γ ρ) (.int .i64 13) (RDev p γ ρ) w := by
 refine enterRc hd Tryz.func130 rfl Tryz.ntmps130 rfl ?_
 obtain ⟨hQ, hg⟩ := RDev.facts hd
 have hln := hg.len
 have hps := hg.pos
 have hnw := hg.now
 simp only [envOf]
 refine tR (tA rfl rfl (tE (tR (tM rfl rfl (tM rfl rfl (At.callK 0 rfl (fun w hw hr => ha ▸ wrong_k _ _ _ _ w hr) Tryz.call165 rfl rfl (tA rfl rfl (tE (At.seq (tR (tM rfl rfl (tV (Val.bin rfl rfl rfl) rfl (tE (At.condF rfl (At.skipC (At.thenN (tR (tM rfl rfl (At.callK 0 rfl (fun w hw hr => rstep_0 _ _ _ w hno hr) Tryz.call166 rfl rfl (tA rfl rfl (tE (At.seq (tR (tM rfl rfl (tV (Val.bin rfl rfl rfl) rfl (tE (At.condT rfl (tR (tA rfl rfl (tE (At.retC (At.thenR (At.ret1 (.inl rfl) rfl rfl rfl (fun w hw => ?_))))))))))))))))))))))))))))))))))
 exact ⟨rfl, hw⟩
theorem rstore_no (p : Nat) (γ : Rg) (ρ : Rs) (a : Int) (x : BitVec 64) (w : World) (ha : wrongE ρ a ≠ 0) (hd : (RDev p γ ρ).holds w) :
    Upd Tryz.prog 130 [.pointer (some ⟨p, 0, none⟩), .int .i64 a, b64 x] (RDev p γ ρ) (.int .i64 (wrongE ρ a)) (RDev p γ ρ) w := by
 refine enterRc hd Tryz.func130 rfl Tryz.ntmps130 rfl ?_
 obtain ⟨hQ, hg⟩ := RDev.facts hd
 have hln := hg.len
 have hps := hg.pos
 have hnw := hg.now
 simp only [envOf]
 refine tR (tA rfl rfl (tE (tR (tM rfl rfl (tM rfl rfl (At.callK 0 rfl (fun w hw hr => wrong_k _ _ _ _ w hr) Tryz.call165 rfl rfl (tA rfl rfl (tE (At.seq (tR (tM rfl rfl (tV (Val.bin rfl rfl rfl) rfl (tE ?_)))))))))))))
 refine At.cond rfl (fun h1 => ?_) (fun h1 => ?_)
 ·try simp only [hasB, isSizeB, sB] at h1
  refine tR (tM rfl rfl (tA rfl rfl (tE (At.retC (At.thenR (At.ret1 (.inl rfl) rfl rfl rfl (fun w hw => ?_)))))))
  exact ⟨rfl, hw⟩
 ·try simp only [hasB, isSizeB, sB] at h1
  exact absurd h1 ha
theorem rnew_d (n : Int) (M : Nat) (w : World) (hn : isSizeB n = true) (hM : n = 64 * (M : Int)) :
    NewRDev Tryz.prog 123 [.int .i64 n] (zeroR M) w := by
 refine enter (feet []) [] Tryz.func123 rfl Tryz.ntmps123 rfl ⟨by simp, by simp, by simp, Mod.refl _ _⟩ ?_
 have hnn := hn
 unfold isSizeB at hnn
 rw [decide_eq_true_eq] at hnn
 simp only [envOf]
 refine tR (tA rfl rfl (tA rfl rfl (tE (At.seq (tR (tM rfl rfl (At.weaken [(0, _), (2, _), (3, _), (4, _)] (Sub.cons rfl (Sub.cons rfl (Sub.cons rfl (Sub.cons rfl Sub.nil)))) ?_)))))))
 refine At.boolMeet 10 14 (false) ?_ ?_
 ·simp only [List.take_succ_cons, List.take_zero]
  refine tV (Val.bin rfl rfl rfl) rfl (tM rfl rfl ?_)
  refine At.split (t := 6) rfl (fun h1 => ?_) (fun h1 => ?_)
  ·try simp only [hasB, isSizeB, sB] at h1
   refine At.no rfl rfl rfl rfl (At.no rfl rfl rfl rfl (tV (Val.pickT rfl rfl) rfl (tM rfl rfl (At.no rfl rfl rfl rfl (At.no rfl rfl rfl rfl (At.no rfl rfl rfl rfl (tV (Val.pickT rfl rfl) rfl (At.nil ?_))))))))
   exact At.boolEnd rfl (by first | exact (decide_eq_true (by omega)).symm | exact (decide_eq_false (by omega)).symm | (apply Bool.eq_iff_iff.2; simp only [decide_eq_true_eq, beq_iff_eq, bne_iff_ne, ne_eq, Bool.not_eq_true', decide_eq_false_iff_not]; omega) | rfl | (simp_all; done) | (simp_all; omega)) (by repeat (first | exact Sub.nil | refine Sub.cons rfl ?_))
  ·try simp only [hasB, isSizeB, sB] at h1
   refine At.yes rfl rfl (tM rfl rfl (At.yes rfl rfl (tV (Val.bin rfl rfl rfl) rfl (tV (Val.pickF rfl rfl) rfl (tM rfl rfl ?_)))))
   refine At.split (t := 10) rfl (fun h2 => ?_) (fun h2 => ?_)
   ·try simp only [hasB, isSizeB, sB] at h2
    refine At.no rfl rfl rfl rfl (At.no rfl rfl rfl rfl (At.no rfl rfl rfl rfl (tV (Val.pickT rfl rfl) rfl (At.nil ?_))))
    exact At.boolEnd rfl (by first | exact (decide_eq_true (by omega)).symm | exact (decide_eq_false (by omega)).symm | (apply Bool.eq_iff_iff.2; simp only [decide_eq_true_eq, beq_iff_eq, bne_iff_ne, ne_eq, Bool.not_eq_true', decide_eq_false_iff_not]; omega) | rfl | (simp_all; done) | (simp_all; omega)) (by repeat (first | exact Sub.nil | refine Sub.cons rfl ?_))
   ·try simp only [hasB, isSizeB, sB] at h2
    refine At.yes rfl rfl (tM rfl rfl (At.yes rfl rfl ?_))
    first | refine tV (Val.remI rfl rfl (by omega) (by decide)) rfl ?_ | refine tV (Val.rem rfl rfl (by decide)) rfl ?_
    refine At.yes rfl rfl (tV (Val.bin rfl rfl rfl) rfl (tV (Val.pickF rfl rfl) rfl (At.nil ?_)))
    exact At.boolEnd rfl (by first | exact (decide_eq_true (by omega)).symm | exact (decide_eq_false (by omega)).symm | (apply Bool.eq_iff_iff.2; simp only [decide_eq_true_eq, beq_iff_eq, bne_iff_ne, ne_eq, Bool.not_eq_true', decide_eq_false_iff_not]; omega) | rfl | (simp_all; done) | (simp_all; omega)) (by repeat (first | exact Sub.nil | refine Sub.cons rfl ?_))
 ·simp only [List.drop_succ_cons, List.drop_zero]
  refine tE ?_
  refine At.cond rfl (fun h3 => ?_) (fun h3 => ?_)
  ·try simp only [hasB, isSizeB, sB] at h3
   cases h3
  ·try simp only [hasB, isSizeB, sB] at h3
   refine At.skipC (At.thenN (tR (tM rfl rfl (tV (Val.quoI rfl rfl (by omega) (by omega) (by decide)) rfl ?_))))
   rw [show n / 64 = (M : Int) from by omega]
   rw [hM]
   refine At.makeRow (n := M) Tryz.underlying191 info_190 rfl rfl (made_lines M) rfl rfl (Nat.le_trans (Nat.mul_le_mul_left _ (show M ≤ 8192 by omega)) (show (Tryz.t190).bytes * 8192 ≤ 281474976710656 by decide +kernel)) (by omega) rfl (fun v4 => (At.rowIs (i := 0) rfl (fun A5 c6 hv7 => ?_)))
   subst hv7
   refine tV (Val.build (fun a ha => by simp only [List.map_toArray, List.map_cons, List.map_nil, ha.eval (x := (.tmp 17)) rfl, ha.eval (x := (.const (.int .i64 (-1)))) rfl] <;> rfl) (bld_193_0_3 _ _ _ _ )) rfl (At.box rfl rfl rfl (fun b8 => (tA rfl rfl (tA rfl rfl (At.nil (At.famNone (ls := List.replicate M zL) (fun l hl => by obtain rfl := (List.mem_replicate.1 hl).2; exact ⟨rfl, rfl⟩) (At.rot2 (At.thenN (At.retC (At.ret2 (.inl rfl) rfl rfl rfl rfl (fun w hw => ?_)))))))))))
   exact ⟨_, ⟨(.slice A5 M c6), nilQ (List.replicate M zL)⟩, rfl, toRDev1 (nilQ_fst _) (zeroR_good (by omega) (by omega)) hw rfl (by rw [nilQ_len, List.length_replicate]; rfl) rfl⟩
theorem rnew_no (n : Int) (w : World) (hn : isSizeB n = false) :
    PureC Tryz.prog 123 [.int .i64 n] (.tuple #[.pointer none, .int .i64 10]) w := by
 refine enter0 Tryz.func123 rfl Tryz.ntmps123 rfl ?_
 have hnn := hn
 unfold isSizeB at hnn
 rw [decide_eq_false_iff_not] at hnn
 simp only [envOf]
 refine tR (tA rfl rfl (tA rfl rfl (tE (At.seq (tR (tM rfl rfl (At.weaken [(0, _), (2, _), (3, _), (4, _)] (Sub.cons rfl (Sub.cons rfl (Sub.cons rfl (Sub.cons rfl Sub.nil)))) ?_)))))))
 refine At.boolMeet 10 14 (true) ?_ ?_
 ·simp only [List.take_succ_cons, List.take_zero]
  refine tV (Val.bin rfl rfl rfl) rfl (tM rfl rfl ?_)
  refine At.split (t := 6) rfl (fun h1 => ?_) (fun h1 => ?_)
  ·try simp only [hasB, isSizeB, sB] at h1
   refine At.no rfl rfl rfl rfl (At.no rfl rfl rfl rfl (tV (Val.pickT rfl rfl) rfl (tM rfl rfl (At.no rfl rfl rfl rfl (At.no rfl rfl rfl rfl (At.no rfl rfl rfl rfl (tV (Val.pickT rfl rfl) rfl (At.nil ?_))))))))
   exact At.boolEnd rfl (by first | exact (decide_eq_true (by omega)).symm | exact (decide_eq_false (by omega)).symm | (apply Bool.eq_iff_iff.2; simp only [decide_eq_true_eq, beq_iff_eq, bne_iff_ne, ne_eq, Bool.not_eq_true', decide_eq_false_iff_not]; omega) | rfl | (simp_all; done) | (simp_all; omega)) (by repeat (first | exact Sub.nil | refine Sub.cons rfl ?_))
  ·try simp only [hasB, isSizeB, sB] at h1
   refine At.yes rfl rfl (tM rfl rfl (At.yes rfl rfl (tV (Val.bin rfl rfl rfl) rfl (tV (Val.pickF rfl rfl) rfl (tM rfl rfl ?_)))))
   refine At.split (t := 10) rfl (fun h2 => ?_) (fun h2 => ?_)
   ·try simp only [hasB, isSizeB, sB] at h2
    refine At.no rfl rfl rfl rfl (At.no rfl rfl rfl rfl (At.no rfl rfl rfl rfl (tV (Val.pickT rfl rfl) rfl (At.nil ?_))))
    exact At.boolEnd rfl (by first | exact (decide_eq_true (by omega)).symm | exact (decide_eq_false (by omega)).symm | (apply Bool.eq_iff_iff.2; simp only [decide_eq_true_eq, beq_iff_eq, bne_iff_ne, ne_eq, Bool.not_eq_true', decide_eq_false_iff_not]; omega) | rfl | (simp_all; done) | (simp_all; omega)) (by repeat (first | exact Sub.nil | refine Sub.cons rfl ?_))
   ·try simp only [hasB, isSizeB, sB] at h2
    refine At.yes rfl rfl (tM rfl rfl (At.yes rfl rfl ?_))
    first | refine tV (Val.remI rfl rfl (by omega) (by decide)) rfl ?_ | refine tV (Val.rem rfl rfl (by decide)) rfl ?_
    refine At.yes rfl rfl (tV (Val.bin rfl rfl rfl) rfl (tV (Val.pickF rfl rfl) rfl (At.nil ?_)))
    exact At.boolEnd rfl (by first | exact (decide_eq_true (by omega)).symm | exact (decide_eq_false (by omega)).symm | (apply Bool.eq_iff_iff.2; simp only [decide_eq_true_eq, beq_iff_eq, bne_iff_ne, ne_eq, Bool.not_eq_true', decide_eq_false_iff_not]; omega) | rfl | (simp_all; done) | (simp_all; omega)) (by repeat (first | exact Sub.nil | refine Sub.cons rfl ?_))
 ·simp only [List.drop_succ_cons, List.drop_zero]
  refine tE ?_
  refine At.cond rfl (fun h3 => ?_) (fun h3 => ?_)
  ·try simp only [hasB, isSizeB, sB] at h3
   refine tR (tA rfl rfl (tA rfl rfl (tE (At.retC (At.thenR (At.ret2 (.inl rfl) rfl rfl rfl rfl (fun w hw => ?_)))))))
   exact ⟨rfl, hw.mod⟩
  ·try simp only [hasB, isSizeB, sB] at h3
   cases h3
theorem rWord_k (p : Nat) (γ : Rg) (ρ : Rs) (k j : Nat) (l : Rl) (v0 : BitVec 64) (w : World) (hk : ρ.ls[k]? = some l) (hj : j < 8) (hv0 : l.first[j]? = some v0) (hd : (RDev p γ ρ).holds w) :
    Upd Tryz.prog 151 [.pointer (some ⟨p, 0, none⟩), .int .i64 (8 * ((8 * k + j : Nat) : Int))] (RDev p γ ρ) (.tuple #[b64 (nowF j v0 l.puts), .int .i64 0]) (RDev p γ ρ) w := by
 refine enterRc hd Tryz.func151 rfl Tryz.ntmps151 rfl ?_
 obtain ⟨hQ, hg⟩ := RDev.facts hd
 have hln := hg.len
 have hps := hg.pos
 have hnw := hg.now
 have hkl := (List.getElem?_eq_some_iff.1 hk).1
 simp only [envOf]
 refine tR (tA rfl rfl (tA rfl rfl (tE (tR (tM rfl rfl (tM rfl rfl (At.callK 0 rfl (fun w hw hr => (wrong_at (ρ := ρ) (K := 8 * k + j) (by omega)) ▸ wrong_k _ _ _ _ w hr) Tryz.call165 rfl rfl (tA rfl rfl (tE (At.seq (tR (tM rfl rfl (tV (Val.bin rfl rfl rfl) rfl (tE (At.condF rfl (At.skipC (At.thenN (tR (tM rfl rfl (tM rfl rfl (At.callK 0 rfl (fun w hw hr => rnow_k _ _ _ k j l v0 w hk hj hv0 hr) Tryz.call180 rfl rfl (tA rfl rfl (tE (tR (tM rfl rfl (tA rfl rfl (tA rfl rfl (tE (At.retC (At.ret2 (.inl rfl) rfl rfl rfl rfl (fun w hw => ?_)))))))))))))))))))))))))))))))
 exact ⟨rfl, hw⟩
end Go.Proofs.YtfchinibjhcejaaGreatDoor
namespace Go.Proofs.YtfchinibjhcejaaGreatDoor
open Go Go.Wk
theorem wz_calm (n : Nat) : ∀ w ∈ wz n, w.news = [] := fun w hw => by rw [(List.mem_replicate.1 hw).2]; rfl
theorem olds_wz (n : Nat) : olds (wz n) = List.replicate n 0 := by simp [olds, wz, zWd]
theorem zeroD_good {n : Nat} (h : isSizeB (8 * (n : Int)) = true) : Dgood (zeroD n) := by
  unfold isSizeB at h
  rw [decide_eq_true_eq] at h
  have e : (zeroD n).ws.length = n := by simp [zeroD, wz]
  exact ⟨by rw [e]; omega, by rw [e]; omega, by rw [e]; omega, by simp [zeroD], by simp [zeroD], fun w hw => by
    have := (List.mem_replicate.1 hw).2
    subst this; exact ⟨Nat.le_refl _, Nat.le_refl _⟩⟩
theorem now_old {wd : Wd} (h : wd.news = []) : nowW wd = wd.old := by unfold nowW; rw [h]; rfl
theorem bld_dev (a : Option Addr) (n c m : Nat) (w : World) : (Instr.build 111 #[(0, .slice a n c), (1, .map (some m))]).run Tryz.prog w = .ok (.agg #[.slice a n c, .map (some m), .int .i64 0, .bool false, .int .i64 0]) w := by kernel_rfl
theorem wordOf_p (v : Value) (l : List UInt8) (w : World) (hv : RdB w v l) (h8 : 8 ≤ l.length) :
    PureC Tryz.prog 79 [v] (b64 (wdA l 0)) w := by
 refine enter0 Tryz.func79 rfl Tryz.ntmps79 rfl ?_
 simp only [envOf]
 refine tR (tA rfl rfl (tE (tR (tA rfl rfl (tE (At.seq (tR (tA rfl rfl (tE (At.block ?_))))))))))
 skip
 refine At.loop (σ := Nat) (fun k => k ≤ 8) (fun k => [(0, v), (3, .int .u64 ((num l k (8 - k) : Nat) : Int)), (4, .int .i64 ((k : Int) - 1))]) (fun k => []) (fun k => k) 8 (Nat.le_refl _) (Sub.cons rfl (Sub.cons (congrArg (fun z => some (Value.int IntKind.u64 z)) (by rw [Nat.sub_self, num_zero]; rfl)) (Sub.cons rfl Sub.nil))) (List.Perm.refl _) ?_
 intro k hs
 refine At.seq (tR (tM rfl rfl (tV (Val.bin rfl rfl rfl) rfl (tE ?_))))
 refine At.cond rfl (fun h1 => ?_) (fun h1 => ?_)
 ·try simp only [hasB, isSizeB, sB] at h1
  have hk : 1 ≤ k := by omega
  refine At.skipC (At.thenN (At.seq (At.block (At.region (tM rfl rfl (tV (Val.shl rfl rfl (by decide)) rfl (tM rfl rfl (tM rfl rfl (At.idxB hv Tryz.underlying29 Tryz.sizeOf5 rfl rfl (by omega) (by omega) rfl rfl (fun b2 o3 q4 hq5 hl6 hc7 => (tV (Val.loadOld Tryz.isAgg5 rfl hc7 (fun h => h)) rfl (tV (Val.toU Tryz.underlying5 Tryz.underlying43 rfl (by omega) (by omega)) rfl ?_))))))))))))
  have hq8 := hq5
  have e1 : ((k : Int) - 1).toNat = k - 1 := by omega
  rw [e1] at hq8
  have hlt := num_lt (l := l) k (8 - k)
  have hlt' : num l k (8 - k) < 72057594037927936 := Nat.lt_of_lt_of_le hlt (Nat.pow_le_pow_right (n := 256) (i := 8 - k) (j := 7) (by decide) (by omega))
  refine tV (Val.bin rfl rfl rfl) rfl ?_
  rw [or_low hlt' (UInt8.toNat_lt _)]
  refine tA rfl rfl (At.nil (At.blkN (At.thenN (At.region (tM rfl rfl ?_)))))
  first | refine tV (Val.subI rfl rfl (by omega) (by omega)) rfl ?_ | refine tV (Val.bin rfl rfl rfl) rfl ?_
  refine tA rfl rfl (tE ?_)
  exact At.again (k - 1) (show k - 1 ≤ 8 by omega) (show k - 1 < k by omega) (Sub.cons rfl (Sub.cons (congrArg (fun z => some (Value.int IntKind.u64 z)) (by rw [show 8 - (k - 1) = 8 - k + 1 by omega, num_cons hq8, show k - 1 + 1 = k by omega])) (Sub.cons (congrArg (fun z => some (Value.int IntKind.i64 z)) (by omega)) Sub.nil))) (List.Perm.refl _)
 ·try simp only [hasB, isSizeB, sB] at h1
  obtain rfl : k = 0 := by omega
  refine At.exitC (At.thenX (At.thenX (At.blkX (At.thenN (tR (tM rfl rfl (tA rfl rfl (tE (At.retC (At.ret1 (.inl rfl) rfl rfl rfl (fun w hw => ?_)))))))))))
  exact ⟨congrArg Ending.returned (wdA_val l 0), hw.mod⟩
theorem putW_r (b o m cc n c : Nat) (l : List UInt8) (x : BitVec 64) (w : World) (h8 : 8 ≤ m) (ho8 : o + 8 ≤ l.length) (hr : (brow 5 (.slice (some ⟨b, 0, none⟩) n c) l).holds w) :
    Upd Tryz.prog 94 [.slice (some ⟨b, o, none⟩) m cc, b64 x] (brow 5 (.slice (some ⟨b, 0, none⟩) n c) l) (.tuple #[]) (brow 5 (.slice (some ⟨b, 0, none⟩) n c) (put8 l o x)) w := by
 refine enter (feet [brow 5 (.slice (some ⟨b, 0, none⟩) n c) l]) [brow 5 (.slice (some ⟨b, 0, none⟩) n c) l] Tryz.func94 rfl Tryz.ntmps94 rfl (Rep.one hr) ?_
 simp only [envOf]
 refine tR (tM rfl rfl (tE (At.block ?_)))
 skip
 refine At.loop (σ := Nat) (fun k => k ≤ 8) (fun k => [(0, .slice (some ⟨b, o, none⟩) m cc), (1, b64 x), (5, .int .i64 (k : Int))]) (fun k => [brow 5 (.slice (some ⟨b, 0, none⟩) n c) (putK l o x k)]) (fun k => 8 - k) 0 (Nat.zero_le _) (Sub.cons rfl (Sub.cons rfl (Sub.cons rfl Sub.nil))) (by rw [putK_zero]) ?_
 intro k hs
 refine tR (tV (Val.bin rfl rfl rfl) rfl (tE (At.seq ?_)))
 refine At.cond rfl (fun h1 => ?_) (fun h1 => ?_)
 ·try simp only [hasB, isSizeB, sB] at h1
  have hk : k < 8 := by omega
  refine At.skipC (At.thenN (At.seq (At.block (tR (tM rfl rfl (tA rfl rfl (tE (At.region (tM rfl rfl (tM rfl rfl (tM rfl rfl (tM rfl rfl (tV (Val.mulI rfl rfl (by omega) (by omega)) rfl (tV (Val.shr rfl rfl (by omega)) rfl ?_))))))))))))))
  rw [shr_byte x hk]
  refine tV (Val.toB Tryz.underlying43 Tryz.underlying5 rfl (Int.natCast_nonneg _)) rfl ?_
  rw [Int.toNat_natCast]
  refine tV (Val.indexSl (o + k) (by omega) Tryz.underlying29 Tryz.sizeOf5 rfl rfl (by omega) (by omega)) rfl ?_
  have hpl := putK_length (l := l) (o := o) (k := k) x (by omega) (by omega)
  refine At.storeRowB (i := 0) Tryz.sizeOf5 rfl rfl rfl (by omega) ?_
  simp only [sc0, scS]
  rw [putK_step x (by omega) hk]
  refine At.nil (At.blkN (At.thenN (At.region ?_)))
  first | refine tV (Val.addI rfl rfl (by omega) (by omega)) rfl ?_ | refine tV (Val.bin rfl rfl rfl) rfl ?_
  refine tM rfl rfl (tE ?_)
  exact At.again (k + 1) (show k + 1 ≤ 8 by omega) (by omega) (Sub.cons rfl (Sub.cons rfl (Sub.cons (congrArg (fun z => some (Value.int IntKind.i64 z)) (by omega)) Sub.nil))) (List.Perm.refl _)
 ·try simp only [hasB, isSizeB, sB] at h1
  obtain rfl : k = 8 := by omega
  refine At.exitC (At.thenX (At.thenX (At.blkX (At.ret0 (.inr rfl) rfl rfl  (fun w hw => ?_)))))
  exact ⟨rfl, hw⟩
theorem putW_b (b U : Nat) (cs : List Value) (x : BitVec 64) (w : World) (hcs : cs.length = 8) (hr : (blk b U cs).holds w) :
    Upd Tryz.prog 94 [.slice (some ⟨b, 0, none⟩) 8 8, b64 x] (blk b U cs) (.tuple #[]) (blk b U ((le8 x).map bv)) w := by
 refine enter (feet [blk b U cs]) [blk b U cs] Tryz.func94 rfl Tryz.ntmps94 rfl (Rep.one hr) ?_
 have hll : ((le8 x).map bv).length = cs.length := by rw [List.length_map, le_length, hcs]
 simp only [envOf]
 refine tR (tM rfl rfl (tE (At.block ?_)))
 skip
 refine At.loop (σ := Nat) (fun k => k ≤ 8) (fun k => [(0, .slice (some ⟨b, 0, none⟩) 8 8), (1, b64 x), (5, .int .i64 (k : Int))]) (fun k => [blk b U (fillG ((le8 x).map bv) cs k)]) (fun k => 8 - k) 0 (Nat.zero_le _) (Sub.cons rfl (Sub.cons rfl (Sub.cons rfl Sub.nil))) (by rw [fillG_zero]) ?_
 intro k hs
 refine tR (tV (Val.bin rfl rfl rfl) rfl (tE (At.seq ?_)))
 refine At.cond rfl (fun h1 => ?_) (fun h1 => ?_)
 ·try simp only [hasB, isSizeB, sB] at h1
  have hk : k < 8 := by omega
  refine At.skipC (At.thenN (At.seq (At.block (tR (tM rfl rfl (tA rfl rfl (tE (At.region (tM rfl rfl (tM rfl rfl (tM rfl rfl (tM rfl rfl (tV (Val.mulI rfl rfl (by omega) (by omega)) rfl (tV (Val.shr rfl rfl (by omega)) rfl ?_))))))))))))))
  rw [shr_byte x hk]
  refine tV (Val.toB Tryz.underlying43 Tryz.underlying5 rfl (Int.natCast_nonneg _)) rfl ?_
  rw [Int.toNat_natCast]
  refine tV (Val.indexSl k (by omega) Tryz.underlying29 Tryz.sizeOf5 rfl rfl (by omega) (by omega)) rfl ?_
  have hfl := fillG_length hll k
  refine At.store (i := 0) Tryz.sizeOf5 rfl rfl rfl rfl (by rw [hfl, List.length_map, le_length]; exact hk) ?_
  simp only [sc0, scS]
  rw [fillG_step (by rw [List.getElem?_map, le_get 8 _ k hk]; rfl) hll]
  refine At.nil (At.blkN (At.thenN (At.region ?_)))
  first | refine tV (Val.addI rfl rfl (by omega) (by omega)) rfl ?_ | refine tV (Val.bin rfl rfl rfl) rfl ?_
  refine tM rfl rfl (tE ?_)
  exact At.again (k + 1) (show k + 1 ≤ 8 by omega) (by omega) (Sub.cons rfl (Sub.cons rfl (Sub.cons (congrArg (fun z => some (Value.int IntKind.i64 z)) (by omega)) Sub.nil))) (List.Perm.refl _)
 ·try simp only [hasB, isSizeB, sB] at h1
  obtain rfl : k = 8 := by omega
  refine At.exitC (At.thenX (At.thenX (At.blkX (At.ret0 (.inr rfl) rfl rfl  (fun w hw => ?_)))))
  rw [fillG_all (by rw [List.length_map, le_length]) hcs] at hw
  exact ⟨rfl, hw⟩
theorem now_k (p : Nat) (γ : Gh) (σ : Ds) (k : Nat) (wd : Wd) (w : World) (hk : σ.ws[k]? = some wd) (hd : (Dev p γ σ).holds w) :
    Upd Tryz.prog 116 [.pointer (some ⟨p, 0, none⟩), .int .i64 (8 * (k : Int))] (Dev p γ σ) (b64 (nowW wd)) (Dev p γ σ) w := by
 refine enterV hd Tryz.func116 rfl Tryz.ntmps116 rfl ?_
 unfold devL
 have hgd := Dev.good hd
 have hln := hgd.len
 have hkl := (List.getElem?_eq_some_iff.1 hk).1
 have hst := hgd.steps
 have hwd := hgd.word wd (List.mem_of_getElem? hk)
 simp only [envOf]
 refine tR (tA rfl rfl (tE (At.seq (tR (tM rfl rfl (tV (Val.nilCheck rfl) rfl (tV (Val.field 1 rfl fo_111_1 rfl) rfl (tV (Val.load (i := 0) Tryz.isAgg109 rfl rfl rfl) rfl (tM rfl rfl (tV (Val.look (i := 2) Tryz.underlying109 Tryz.underlying3 Tryz.zeroValue113 rfl rfl rfl) rfl ?_))))))))))
 by_cases hn : wd.news = []
 ·rw [mk_at, mkN_none hk hn]
  refine tA rfl rfl (tE (tR (tM rfl rfl (tV (Val.neNil (t := 113) (by kernel_rfl) rfl) rfl (tE (At.condF rfl (At.skipC (At.thenN (tR (tM rfl rfl (tV (Val.nilCheck rfl) rfl (tV (Val.field 0 rfl fo_111_0 rfl) rfl (tV (Val.load (i := 0) Tryz.isAgg98 rfl rfl rfl) rfl (tM rfl rfl (tV (Val.quoI rfl rfl (by omega) (by omega) (by decide)) rfl ?_)))))))))))))))
  rw [show 8 * (k : Int) / 8 = (k : Int) from by omega]
  refine tV (Val.indexRow (i := 1) k (by omega) Tryz.underlying98 Tryz.sizeOf43 rfl rfl rfl (by omega) (by rw [olds_length]; omega)) rfl ?_
  refine tV (Val.loadRow (i := 1) Tryz.isAgg43 rfl rfl (by rw [List.getElem?_map, olds_at hk]; rfl)) rfl ?_
  refine tA rfl rfl (tE (At.retC (At.ret1 (.inl rfl) rfl rfl rfl (fun w hw => ?_))))
  exact ⟨congrArg (fun z => Ending.returned (b64 z)) (now_old hn).symm, retK (F := []) hw⟩
 ·rw [mk_at, mkN_some hk hn]
  have hpos := List.length_pos_iff.2 hn
  refine tA rfl rfl (tE (tR (tM rfl rfl (tV (Val.neNil (t := 113) (by kernel_rfl) rfl) rfl (tE (At.condT rfl (At.seq (At.dbtSome 3 rfl hk hn (fun b o c hv => (At.quiet rfl (by decide +kernel) (qM rfl rfl (qV (Val.nilCheck rfl) rfl (qV (Val.field 0 rfl fo_115_0 rfl) rfl (qV (Val.loadDbt (i := 3) Tryz.isAgg98 rfl rfl hk hn rfl) rfl (qM rfl rfl (qV (Val.nilCheck rfl) rfl (qV (Val.field 0 rfl fo_115_0 rfl) rfl (qV (Val.loadDbt (i := 3) Tryz.isAgg98 rfl rfl hk hn rfl) rfl (qV (Val.lenDbt (i := 3) rfl hk hn Tryz.underlying98 rfl) rfl (qV (Val.subI rfl rfl (by omega) (by omega)) rfl ?_))))))))))))))))))))
  rw [hv]
  refine qV (Val.indexSl (o + (wd.news.length - 1)) (by omega) Tryz.underlying98 Tryz.sizeOf43 rfl rfl (by omega) (by omega)) rfl (qV (Val.loadNews (i := 3) Tryz.isAgg43 rfl rfl hk hn hv rfl (now_last hn (y := nowW wd) rfl)) rfl (qV (Val.assign rfl) rfl (QAt.fin (At.thenN (At.retC (At.thenR (At.ret1 (.inl rfl) rfl rfl rfl (fun w hw => ?_))))))))
  exact ⟨rfl, retK (F := []) hw⟩
end Go.Proofs.YtfchinibjhcejaaGreatDoor
namespace Go.Proofs.YtfchinibjhcejaaGreatDoor
open Go Go.Wk
def loadWs (l : List UInt8) : List Wd := (List.range (l.length / 8)).map fun i => ⟨wdA l (8 * i), [], 0⟩
def loadD (l : List UInt8) : Ds := ⟨loadWs l, 0, false, 0⟩
theorem loadWs_length (l : List UInt8) : (loadWs l).length = l.length / 8 := by simp [loadWs]
theorem loadWs_calm (l : List UInt8) : ∀ w ∈ loadWs l, w.news = [] := fun w hw => by
  obtain ⟨i, _, rfl⟩ := List.mem_map.1 hw; rfl
theorem loadD_good {l : List UInt8} (h : isSizeB (l.length : Int) = true) : Dgood (loadD l) := by
  unfold isSizeB at h
  rw [decide_eq_true_eq] at h
  have e : (loadD l).ws.length = l.length / 8 := loadWs_length l
  exact ⟨by rw [e]; omega, by rw [e]; omega, by rw [e]; omega, by simp [loadD], by simp [loadD], fun w hw => by
    obtain ⟨i, _, rfl⟩ := List.mem_map.1 hw
    exact ⟨Nat.le_refl _, Nat.le_refl _⟩⟩
def fillW (l : List UInt8) (k : Nat) : List (BitVec 64) := ((List.range k).map fun i => wdA l (8 * i)) ++ List.replicate (l.length / 8 - k) 0
theorem fillW_length {l : List UInt8} {k : Nat} (h : k ≤ l.length / 8) : (fillW l k).length = l.length / 8 := by unfold fillW; simp; omega
theorem fillW_step {l : List UInt8} {k : Nat} (h : k < l.length / 8) : (fillW l k).set k (wdA l (8 * k)) = fillW l (k + 1) := by
  unfold fillW
  rw [List.set_append_right _ _ (by simp), List.length_map, List.length_range, Nat.sub_self, List.range_succ, List.map_append]
  obtain ⟨m, hm⟩ : ∃ m, l.length / 8 - k = m + 1 := ⟨l.length / 8 - k - 1, by omega⟩
  rw [hm, List.replicate_succ, List.set_cons_zero, show l.length / 8 - (k + 1) = m from by omega]
  simp
theorem fillW_all (l : List UInt8) : fillW l (l.length / 8) = olds (loadD l).ws := by
  unfold fillW olds loadD loadWs
  simp [Function.comp_def]
theorem wdA_drop (l : List UInt8) (a : Nat) : wdA (l.drop a) 0 = wdA l a := by unfold wdA num; rw [List.drop_zero]
def armD (σ : Ds) (m : Nat) : Ds := { σ with armed := true, left := m }
theorem armD_good {σ : Ds} {m : Nat} (h : Dgood σ) (hm : m ≤ 9223372036854775807) : Dgood (armD σ m) := ⟨h.pos, h.len, h.lines, h.steps, hm, h.word⟩
theorem place_at {σ : Ds} {k : Nat} (h : k < σ.ws.length) : placeE σ (8 * (k : Int)) = 0 := by unfold placeE; rw [if_pos (by omega), if_pos (by omega)]
theorem place_inv {σ : Ds} {a : Int} (h : placeE σ a = 0) : ∃ k : Nat, a = 8 * (k : Int) ∧ k < σ.ws.length := by
  unfold placeE at h
  split at h
  · split at h
    · exact ⟨(a / 8).toNat, by omega, by omega⟩
    · omega
  · omega
theorem rot3p {a b c f : Res} : List.Perm [f, a, b, c] [a, c, b, f] := by
  refine (List.perm_middle (l₁ := [a, b, c]) (l₂ := [])).symm.trans ?_
  exact ((List.Perm.swap c b [f])).cons a
theorem new_d (N : Nat) (w : World) (hn : isSizeB (8 * (N : Int)) = true) :
    NewDev Tryz.prog 78 [.int .i64 (8 * (N : Int))] (zeroD N) w := by
 refine enter (feet []) [] Tryz.func78 rfl Tryz.ntmps78 rfl ⟨by simp, by simp, by simp, Mod.refl _ _⟩ ?_
 have hnn := hn
 unfold isSizeB at hnn
 rw [decide_eq_true_eq] at hnn
 simp only [envOf]
 refine tR (tA rfl rfl (tA rfl rfl (tE (At.seq (tR (tM rfl rfl (At.callP (fun w hw => isSize_p _ w) Tryz.call113 rfl rfl (tV (Val.not rfl) rfl (tE ?_)))))))))
 refine At.cond rfl (fun h1 => ?_) (fun h1 => ?_)
 ·try simp only [hasB, isSizeB, sB] at h1
  omega
 ·try simp only [hasB, isSizeB, sB] at h1
  refine At.skipC (At.thenN (tR (tM rfl rfl (tV (Val.quoI rfl rfl (by omega) (by omega) (by decide)) rfl ?_))))
  rw [show 8 * (N : Int) / 8 = (N : Int) from by omega]
  refine At.makeRowW Tryz.underlying98 info_43 rfl rfl rfl rfl rfl (by omega) rfl (fun v2 => (At.makeMap rfl (fun mb3 => (At.rowIs (i := 1) rfl (fun A4 c5 hv => ?_)))))
  subst hv
  refine tV (Val.build (fun a ha => by simp only [List.map_toArray, List.map_cons, List.map_nil, ha.eval (x := (.tmp 9)) rfl, ha.eval (x := (.tmp 10)) rfl] <;> rfl) (bld_dev _ _ _ _)) rfl (At.box rfl rfl rfl (fun b6 => (tA rfl rfl (tA rfl rfl (tE (At.retC (At.ret2 (.inl rfl) rfl rfl rfl rfl (fun w hw => ?_))))))))
  have hgz := zeroD_good hn
  exact ⟨b6, ⟨(.slice A4 ((List.replicate N (0 : BitVec 64)).length) c5), mb3, fun _ => (0, .slice none 0 0)⟩, rfl, toDev (F := []) hgz (Rep.famNil (I := dI (zeroD N).ws (fun _ => (0, .slice none 0 0))) (dI_calm (wz_calm _)) hw |>.perm (rot3p)) rfl (by rw [show olds (zeroD N).ws = List.replicate N 0 from olds_wz N]) (by rw [mk_calm (ws := (zeroD N).ws) (wz_calm _)]) rfl⟩
theorem new_n (n : Int) (w : World) (hn : isSizeB n = true) (N : Nat) (hN : 8 * (N : Int) = n) : NewDev Tryz.prog 78 [.int .i64 n] (zeroD N) w := by
  subst hN; exact new_d N w hn
theorem word_k (p : Nat) (γ : Gh) (σ : Ds) (k : Nat) (wd : Wd) (w : World) (hk : σ.ws[k]? = some wd) (hd : (Dev p γ σ).holds w) :
    Upd Tryz.prog 85 [.pointer (some ⟨p, 0, none⟩), .int .i64 (8 * (k : Int))] (Dev p γ σ) (.tuple #[b64 (nowW wd), .int .i64 0]) (Dev p γ σ) w := by
 refine enterVc hd Tryz.func85 rfl Tryz.ntmps85 rfl ?_
 have hgd := Dev.good hd
 have hkl := (List.getElem?_eq_some_iff.1 hk).1
 have hpl := place_at hkl
 simp only [envOf]
 refine tR (tA rfl rfl (tA rfl rfl (tE (At.seq (tR (tM rfl rfl (tM rfl rfl (At.callK 0 rfl (fun w hw hr => place_k _ _ _ _ w hr) Tryz.call117 rfl rfl (tA rfl rfl (tE (tR (tM rfl rfl (tV (Val.bin rfl rfl rfl) rfl (tE ?_))))))))))))))
 refine At.cond rfl (fun h1 => ?_) (fun h1 => ?_)
 ·try simp only [hasB, isSizeB, sB] at h1
  omega
 ·try simp only [hasB, isSizeB, sB] at h1
  refine At.skipC (At.thenN (tR (tM rfl rfl (tM rfl rfl (At.callK 0 rfl (fun w hw hr => now_k _ _ _ _ _ w hk hr) Tryz.call116 rfl rfl (tA rfl rfl (tA rfl rfl (tE (At.retC (At.ret2 (.inl rfl) rfl rfl rfl rfl (fun w hw => ?_)))))))))))
  exact ⟨rfl, hw⟩
theorem arm_d (p : Nat) (γ : Gh) (σ : Ds) (m : Nat) (w : World) (hm : m ≤ 9223372036854775807) (hno : deadB σ = false) (hd : (Dev p γ σ).holds w) :
    DevU Tryz.prog 44 [.pointer (some ⟨p, 0, none⟩), .int .i64 (m : Int)] p γ σ (.int .i64 0) (armD σ m) w := by
 refine enterVc hd Tryz.func44 rfl Tryz.ntmps44 rfl ?_
 have hgd := Dev.good hd
 simp only [envOf]
 refine tR (tA rfl rfl (tE (At.seq (tR (tM rfl rfl (tV (Val.bin rfl rfl rfl) rfl (tE ?_)))))))
 refine At.cond rfl (fun h1 => ?_) (fun h1 => ?_)
 ·try simp only [hasB, isSizeB, sB] at h1
  omega
 ·try simp only [hasB, isSizeB, sB] at h1
  refine At.skipC (At.thenN (At.seq (tR (tM rfl rfl (At.callK 0 rfl (fun w hw hr => dead_k _ _ _ w hr) Tryz.call80 rfl rfl (tE ?_))))))
  refine At.cond rfl (fun h2 => ?_) (fun h2 => ?_)
  ·try simp only [hasB, isSizeB, sB] at h2
   rw [hno] at h2; cases h2
  ·try simp only [hasB, isSizeB, sB] at h2
   refine At.skipC (At.thenN (At.seq (At.openS 0 rfl ?_)))
   simp only [devL, List.cons_append, List.nil_append, ec0, ecS]
   refine At.region (tM rfl rfl (tM rfl rfl (tM rfl rfl (tV (Val.nilCheck rfl) rfl (tV (Val.field 3 rfl fo_111_3 rfl) rfl (At.store (i := 0) Tryz.sizeOf4 rfl rfl rfl rfl (by first | decide | simp) ?_))))))
   simp only [sc0, scS]
   refine tV (Val.nilCheck rfl) rfl (tV (Val.field 4 rfl fo_111_4 rfl) rfl (At.store (i := 0) Tryz.sizeOf3 rfl rfl rfl rfl (by first | decide | simp) ?_))
   simp only [sc0, scS]
   refine tE (tR (tA rfl rfl (tE (At.retC (At.ret1 (.inl rfl) rfl rfl rfl (fun w hw => ?_))))))
   exact ⟨γ, rfl, toDev (F := []) (armD_good hgd hm) (hw.drop (show List.Sublist [_, _, _, _] _ from (List.Sublist.refl _ |>.cons _ |>.cons_cons _ |>.cons_cons _ |>.cons_cons _ |>.cons_cons _))) rfl rfl rfl rfl⟩
theorem arm_neg (p : Nat) (γ : Gh) (σ : Ds) (m : Int) (w : World) (hm : m < 0) (hd : (Dev p γ σ).holds w) :
    Upd Tryz.prog 44 [.pointer (some ⟨p, 0, none⟩), .int .i64 m] (Dev p γ σ) (.int .i64 14) (Dev p γ σ) w := by
 refine enterVc hd Tryz.func44 rfl Tryz.ntmps44 rfl ?_
 have hgd := Dev.good hd
 simp only [envOf]
 refine tR (tA rfl rfl (tE (At.seq (tR (tM rfl rfl (tV (Val.bin rfl rfl rfl) rfl (tE ?_)))))))
 refine At.cond rfl (fun h1 => ?_) (fun h1 => ?_)
 ·try simp only [hasB, isSizeB, sB] at h1
  refine tR (tA rfl rfl (tE (At.retC (At.thenR (At.ret1 (.inl rfl) rfl rfl rfl (fun w hw => ?_))))))
  exact ⟨rfl, hw⟩
 ·try simp only [hasB, isSizeB, sB] at h1
  omega
theorem arm_dead (p : Nat) (γ : Gh) (σ : Ds) (m : Int) (w : World) (hm : 0 ≤ m) (hno : deadB σ = true) (hd : (Dev p γ σ).holds w) :
    Upd Tryz.prog 44 [.pointer (some ⟨p, 0, none⟩), .int .i64 m] (Dev p γ σ) (.int .i64 13) (Dev p γ σ) w := by
 refine enterVc hd Tryz.func44 rfl Tryz.ntmps44 rfl ?_
 have hgd := Dev.good hd
 simp only [envOf]
 refine tR (tA rfl rfl (tE (At.seq (tR (tM rfl rfl (tV (Val.bin rfl rfl rfl) rfl (tE ?_)))))))
 refine At.cond rfl (fun h1 => ?_) (fun h1 => ?_)
 ·try simp only [hasB, isSizeB, sB] at h1
  omega
 ·try simp only [hasB, isSizeB, sB] at h1
  refine At.skipC (At.thenN (At.seq (tR (tM rfl rfl (At.callK 0 rfl (fun w hw hr => dead_k _ _ _ w hr) Tryz.call80 rfl rfl (tE ?_))))))
  refine At.cond rfl (fun h2 => ?_) (fun h2 => ?_)
  ·try simp only [hasB, isSizeB, sB] at h2
   refine tR (tA rfl rfl (tE (At.retC (At.thenR (At.ret1 (.inl rfl) rfl rfl rfl (fun w hw => ?_))))))
   exact ⟨rfl, hw⟩
  ·try simp only [hasB, isSizeB, sB] at h2
   rw [hno] at h2; cases h2
theorem load_d (v : Value) (l : List UInt8) (w : World) (hv : RdB w v l) (hn : isSizeB (l.length : Int) = true) :
    NewDev Tryz.prog 43 [v] (loadD l) w := by
 refine enter (feet []) [] Tryz.func43 rfl Tryz.ntmps43 rfl ⟨by simp, by simp, by simp, Mod.refl _ _⟩ ?_
 have hnn := hn
 unfold isSizeB at hnn
 rw [decide_eq_true_eq] at hnn
 have hlz : (((olds (zeroD (l.length / 8)).ws).length : Nat) : Int) = ((l.length / 8 : Nat) : Int) := by rw [olds_length]; simp [zeroD, wz]
 have hf0 : fillW l 0 = olds (zeroD (l.length / 8)).ws := by rw [show olds (zeroD (l.length / 8)).ws = List.replicate (l.length / 8) 0 from olds_wz _]; unfold fillW; simp
 simp only [envOf]
 refine tR (tA rfl rfl (tA rfl rfl (tE (tR (tM rfl rfl (tV (Val.lenRd hv Tryz.underlying29 rfl) rfl (At.callND (fun w hw => new_n _ w hn (l.length / 8) (by omega)) Tryz.call78 rfl rfl (fun p1 y2 => (tM rfl rfl (tV (Val.extract rfl rfl) rfl (tV (Val.extract rfl rfl) rfl (tA rfl rfl (tA rfl rfl (tE (At.seq (tR (tM rfl rfl (tV (Val.bin rfl rfl rfl) rfl (tE ?_)))))))))))))))))))
 refine At.cond rfl (fun h3 => ?_) (fun h3 => ?_)
 ·try simp only [hasB, isSizeB, sB] at h3
  simp at h3
 ·try simp only [hasB, isSizeB, sB] at h3
  refine At.skipC (At.thenN (At.seq (At.seq (At.openS 0 rfl ?_))))
  simp only [devL, List.cons_append, List.nil_append, ec0, ecS]
  refine At.region (tM rfl rfl (tV (Val.nilCheck rfl) rfl (tV (Val.field 0 rfl fo_111_0 rfl) rfl (tV (Val.load (i := 0) Tryz.isAgg98 rfl rfl rfl) rfl (tV (Val.lenRow (i := 1) Tryz.underlying98 rfl rfl) rfl (tM rfl rfl (tE (At.block ?_))))))))
  skip
  refine At.loop (σ := Nat) (fun k => k ≤ l.length / 8) (fun k => [(0, v), (4, .pointer (some ⟨p1, 0, none⟩)), (20, .int .i64 ((l.length / 8 : Nat) : Int)), (21, .int .i64 (k : Int))]) (fun k => [blk p1 tDv [y2.vo, .map (some y2.mb), .int .i64 0, .bool false, .int .i64 0], wrow tW y2.vo (fillW l k), mapR y2.mb (mk (zeroD (l.length / 8)).ws y2.g), fam (dI (zeroD (l.length / 8)).ws y2.g), factR (Dgood (zeroD (l.length / 8)))]) (fun k => l.length / 8 - k) 0 (Nat.zero_le _) (Sub.cons rfl (Sub.cons rfl (Sub.cons (congrArg (fun z => some (Value.int IntKind.i64 z)) hlz) (Sub.cons rfl Sub.nil)))) (by rw [show fillW l 0 = olds (zeroD (l.length / 8)).ws from hf0]; exact List.Perm.refl _) ?_
  intro k hs
  have hkl8 : 8 * k ≤ l.length := by omega
  have hfl := fillW_length hs
  refine tR (tV (Val.bin rfl rfl rfl) rfl (tE (At.seq ?_)))
  refine At.cond rfl (fun h4 => ?_) (fun h4 => ?_)
  ·try simp only [hasB, isSizeB, sB] at h4
   have hk : k < l.length / 8 := by omega
   have hk8 : 8 * k + 8 ≤ l.length := by omega
   refine At.skipC (At.thenN (At.seq (At.block (tR (tM rfl rfl (tA rfl rfl (tE (At.tail 11 rfl (by decide +kernel) ?_))))))))
   simp only [List.take_succ_cons, List.take_zero, List.drop_succ_cons, List.drop_zero]
   refine qM rfl rfl (qV (Val.nilCheck rfl) rfl (qV (Val.field 0 rfl fo_111_0 rfl) rfl (qV (Val.load (i := 0) Tryz.isAgg98 rfl rfl rfl) rfl (qM rfl rfl (qM rfl rfl (qM rfl rfl (qV (Val.mulI rfl rfl (by omega) (by omega)) rfl ?_)))))))
   rw [show (k : Int) * 8 = ((8 * k : Nat) : Int) from by omega]
   refine QAt.cutB (8 * k) (l.length) hv Tryz.underlying29 Tryz.sizeOf5 rfl ⟨_, _, rfl, by omega, by omega⟩ rfl (by omega) (by omega) rfl rfl (fun v5 hv6 => ?_)
   refine QAt.callP (fun w hw => wordOf_p _ _ w (hv6.mod hw.modF) (by rw [List.length_take, List.length_drop]; omega)) Tryz.call79 rfl rfl (qV (Val.indexRow (i := 1) k (by omega) Tryz.underlying98 Tryz.sizeOf43 rfl rfl rfl (by omega) (by omega)) rfl (QAt.fin ?_))
   rw [show wdA ((l.drop (8 * k)).take (l.length - 8 * k)) 0 = wdA l (8 * k) from by rw [List.take_of_length_le (by rw [List.length_drop]; omega), wdA_drop]]
   refine At.storeRow (i := 1) Tryz.sizeOf43 rfl rfl rfl rfl (by rw [List.length_map]; omega) ?_
   simp only [sc0, scS]
   rw [← List.map_set, fillW_step hk, show (fillW l k).length = (fillW l (k + 1)).length from by rw [hfl, fillW_length (by omega)]]
   refine At.nil (At.blkN (At.thenN (At.region ?_)))
   first | refine tV (Val.addI rfl rfl (by omega) (by omega)) rfl ?_ | refine tV (Val.bin rfl rfl rfl) rfl ?_
   refine tM rfl rfl (tE ?_)
   exact At.again (k + 1) (show k + 1 ≤ _ by omega) (by omega) (Sub.cons rfl (Sub.cons rfl (Sub.cons rfl (Sub.cons (congrArg (fun z => some (Value.int IntKind.i64 z)) (by omega)) Sub.nil)))) (List.Perm.refl _)
  ·try simp only [hasB, isSizeB, sB] at h4
   obtain rfl : k = l.length / 8 := by omega
   refine At.exitC (At.thenX (At.thenX (At.blkX (At.thenN (tR (tM rfl rfl (tA rfl rfl (tA rfl rfl (tE (At.retC (At.ret2 (.inl rfl) rfl rfl rfl rfl (fun w hw => ?_))))))))))))
   exact ⟨p1, ⟨y2.vo, y2.mb, y2.g⟩, rfl, toDev (F := []) (loadD_good hn) (hw.drop (show List.Sublist [_, _, _, _] _ from (List.Sublist.refl _ |>.cons _ |>.cons_cons _ |>.cons_cons _ |>.cons_cons _ |>.cons_cons _))) rfl (by rw [fillW_all]) (by rw [mk_calm (ws := (zeroD (l.length / 8)).ws) (wz_calm _)]; exact congrArg (mapR _) (mk_calm (ws := (loadD l).ws) (loadWs_calm l)).symm) (congrArg fam (dI_calm' (ws := (zeroD (l.length / 8)).ws) (ws' := (loadD l).ws) (wz_calm _) (loadWs_calm l)))⟩
end Go.Proofs.YtfchinibjhcejaaGreatDoor
namespace Go.Proofs.YtfchinibjhcejaaGreatDoor
open Go Go.Wk
def pushW (w : Wd) (x : BitVec 64) : Wd := { w with news := w.news ++ [x] }
def markW (w : Wd) : Wd := { w with mark := w.news.length }
def setD (σ : Ds) (k : Nat) (w : Wd) : Ds := { σ with ws := σ.ws.set k w }
theorem mem_set_or {ws : List Wd} {k : Nat} {a w : Wd} (h : w ∈ ws.set k a) : w = a ∨ w ∈ ws := by
  rcases List.mem_or_eq_of_mem_set h with h | h
  · exact .inr h
  · exact .inl h
theorem push_good {σ : Ds} {k : Nat} {wd : Wd} {x : BitVec 64} (hg : Dgood σ) (hk : σ.ws[k]? = some wd) (hs : σ.steps + 1 ≤ 1099511627776) : Dgood (setD (stepD σ) k (pushW wd x)) := by
  have h1 := dgood_step hg hs
  have hw := hg.word wd (List.mem_of_getElem? hk)
  refine ⟨by simpa [setD] using h1.pos, by simpa [setD] using h1.len, by simpa [setD] using h1.lines, h1.steps, h1.left, fun w hm => ?_⟩
  rcases mem_set_or hm with rfl | h2
  · simp only [pushW, setD, stepD, List.length_append, List.length_singleton]; omega
  · exact h1.word w h2
theorem mark_good {σ : Ds} {k : Nat} {wd : Wd} (hg : Dgood σ) (hk : σ.ws[k]? = some wd) : Dgood (setD σ k (markW wd)) := by
  have hw := hg.word wd (List.mem_of_getElem? hk)
  refine ⟨by simpa [setD] using hg.pos, by simpa [setD] using hg.len, by simpa [setD] using hg.lines, hg.steps, hg.left, fun w hm => ?_⟩
  rcases mem_set_or hm with rfl | h2
  · exact ⟨Nat.le_refl _, hw.2⟩
  · exact hg.word w h2
def flushK (σ : Ds) (f : Nat) : Nat → Ds
  | 0 => σ
  | j + 1 => match (flushK σ f j).ws[f + j]? with | some w => setD (flushK σ f j) (f + j) (markW w) | none => flushK σ f j
theorem flushK_rest (σ : Ds) (f : Nat) : ∀ j, (flushK σ f j).steps = σ.steps ∧ (flushK σ f j).armed = σ.armed ∧ (flushK σ f j).left = σ.left ∧ (flushK σ f j).ws.length = σ.ws.length ∧ olds (flushK σ f j).ws = olds σ.ws
  | 0 => ⟨rfl, rfl, rfl, rfl, rfl⟩
  | j + 1 => by
    obtain ⟨h1, h2, h3, h4, h5⟩ := flushK_rest σ f j
    unfold flushK
    split
    · rename_i w hw
      exact ⟨h1, h2, h3, by simpa [setD] using h4, (olds_same (wd' := markW w) hw rfl).trans h5⟩
    · exact ⟨h1, h2, h3, h4, h5⟩
theorem flushK_good {σ : Ds} (f : Nat) (hg : Dgood σ) : ∀ j, Dgood (flushK σ f j)
  | 0 => hg
  | j + 1 => by
    unfold flushK
    split
    · rename_i w hw; exact mark_good (flushK_good f hg j) hw
    · exact flushK_good f hg j
theorem flushK_succ {σ : Ds} {f j : Nat} {w : Wd} (h : (flushK σ f j).ws[f + j]? = some w) : flushK σ f (j + 1) = setD (flushK σ f j) (f + j) (markW w) := by
  conv => lhs; unfold flushK
  rw [h]
theorem set_get {ws : List Wd} {k : Nat} {w : Wd} (h : ws[k]? = some w) : ws.set k w = ws := set_same h
theorem flushK_nil {σ : Ds} {f j : Nat} {w : Wd} (hg : Dgood σ) (h : (flushK σ f j).ws[f + j]? = some w) (hn : w.news = []) : flushK σ f (j + 1) = flushK σ f j := by
  rw [flushK_succ h]
  have hw := ((flushK_good f hg j).word w (List.mem_of_getElem? h)).1
  have : markW w = w := by cases w; simp only [markW] at *; subst hn; simp at hw ⊢; omega
  unfold setD
  rw [this, set_get h]
theorem store_d (p : Nat) (γ : Gh) (σ : Ds) (k : Nat) (wd : Wd) (x : BitVec 64) (w : World) (hk : σ.ws[k]? = some wd) (hs : σ.steps + 1 ≤ 1099511627776) (hno : deadB σ = false) (hd : (Dev p γ σ).holds w) :
    DevU Tryz.prog 87 [.pointer (some ⟨p, 0, none⟩), .int .i64 (8 * (k : Int)), b64 x] p γ σ (.int .i64 0) (setD (stepD σ) k (pushW wd x)) w := by
 refine enterVc hd Tryz.func87 rfl Tryz.ntmps87 rfl ?_
 have hgd := Dev.good hd
 have hkl := (List.getElem?_eq_some_iff.1 hk).1
 have hk1 : (stepD σ).ws[k]? = some wd := hk
 have hkl1 : k < (stepD σ).ws.length := hkl
 have hwd := hgd.word wd (List.mem_of_getElem? hk)
 have hpn : (pushW wd x).news ≠ [] := by simp [pushW]
 simp only [envOf]
 refine tR (tA rfl rfl (tE (At.seq (tR (tM rfl rfl (tM rfl rfl (At.callK 0 rfl (fun w hw hr => (place_at (σ := σ) hkl) ▸ place_k _ _ _ _ w hr) Tryz.call117 rfl rfl (tA rfl rfl (tE (tR (tM rfl rfl (tV (Val.bin rfl rfl rfl) rfl (tE (At.condF rfl (At.skipC (At.thenN (At.seq (tR (tM rfl rfl (At.callD 0 rfl (fun w hw hr => step_d _ _ _ w hs hno hr) Tryz.call118 rfl rfl (fun y1 => ?_)))))))))))))))))))))
 simp only [sc0, scS]
 refine tA rfl rfl (tE (tR (tM rfl rfl (tV (Val.bin rfl rfl rfl) rfl (tE (At.condF rfl (At.skipC (At.thenN (At.seq (At.openS 0 rfl ?_))))))))))
 simp only [devL, List.cons_append, List.nil_append, ec0, ecS]
 refine At.region (tM rfl rfl (tV (Val.nilCheck rfl) rfl (tV (Val.field 1 rfl fo_111_1 rfl) rfl (tV (Val.load (i := 0) Tryz.isAgg109 rfl rfl rfl) rfl (tM rfl rfl (tV (Val.look (i := 2) Tryz.underlying109 Tryz.underlying3 Tryz.zeroValue113 rfl rfl rfl) rfl ?_))))))
 by_cases hn : wd.news = []
 ·rw [mk_at, mkN_none hk1 hn]
  refine tA rfl rfl (tE (At.seq (tR (tM rfl rfl (tV (Val.eqNil (t := 113) (by kernel_rfl) rfl) rfl (tE (At.condT rfl (tR ?_))))))))
  refine tV (Val.build (fun a ha => by simp only [List.map_toArray, List.map_cons, List.map_nil] <;> rfl) (bld_115_)) rfl (At.box rfl rfl rfl (fun b2 => (tA rfl rfl (tE (At.region (tM rfl rfl (tV (Val.nilCheck rfl) rfl (tV (Val.field 1 rfl fo_111_1 rfl) rfl (tV (Val.load (i := 1) Tryz.isAgg109 rfl rfl rfl) rfl (tM rfl rfl (tM rfl rfl (At.mapSet (i := 3) Tryz.underlying109 Tryz.underlying3 rfl rfl rfl rfl (by rw [mk_at, mkN_none hk1 hn]) ?_))))))))))))
  simp only [sc0, scS]
  refine tE (At.seq (At.winNil tW ?_))
  have hwl : ([] : List Value).length = 0 := rfl
  refine At.region (tM rfl rfl (tM rfl rfl (tV (Val.nilCheck rfl) rfl (tV (Val.field 0 rfl fo_115_0 rfl) rfl (tV (Val.load (i := 1) Tryz.isAgg98 rfl rfl rfl) rfl (tM rfl rfl (At.buildSl (fun a ha => by simp only [List.map_toArray, List.map_cons, List.map_nil, ha.eval (x := (.tmp 42)) rfl]; try rfl) (bs_98_1 _ ) rfl (fun b3 => ?_))))))))
  refine At.appendWin1 (i := 1) (j := 0) (by_ := 8) Tryz.underlying98 info_43 rfl rfl rfl rfl rfl rfl rfl rfl rfl (by rw [hwl]; omega) (by rw [hwl]; omega) rfl (fun v4 => ?_)
  simp only [sc0, scS]
  refine At.drop 0 ?_
  simp only [ec0, ecS]
  refine tV (Val.nilCheck rfl) rfl (tV (Val.field 0 rfl fo_115_0 rfl) rfl (At.winOne 0 rfl (fun ho => (At.store (i := 1) Tryz.sizeOf98 rfl rfl ho rfl (by simp) ?_))))
  simp only [sc0, scS]
  refine At.nil (At.bring 5 rfl ?_)
  simp only [ec0, ecS]
  refine At.bring 1 rfl ?_
  simp only [ec0, ecS]
  refine At.bring 2 rfl ?_
  simp only [ec0, ecS]
  rw [show ([] : List Value) ++ [b64 x] = (pushW wd x).news.map b64 from by simp [pushW, hn]]
  refine At.bornD0 (wd := pushW wd x) (by have := hwd.1; rw [hn] at this; simpa [pushW] using this) hk1 hn hpn (At.rot3 (At.thenN (tR (tA rfl rfl (tE (At.retC (At.ret1 (.inl rfl) rfl rfl rfl (fun w hw => ?_))))))))
  exact ⟨⟨y1.vo, y1.mb, upd y1.g k (b2, v4)⟩, rfl, toDev (F := []) (push_good hgd hk hs) (hw.drop (show List.Sublist [_, _, _, _] _ from (List.Sublist.refl _ |>.cons _ |>.cons_cons _ |>.cons_cons _ |>.cons_cons _ |>.cons_cons _))) rfl (congrArg (wrow tW y1.vo) (olds_same (ws := (stepD σ).ws) (wd' := pushW wd x) hk1 rfl).symm) (congrArg (mapR y1.mb) (mk_push hkl1 hpn).symm) rfl⟩
 ·rw [mk_at, mkN_some hk1 hn]
  refine tA rfl rfl (tE (At.seq (At.seq (At.focusD 3 rfl hk1 hn ?_))))
  simp only [ec0, ecS]
  refine At.region (tM rfl rfl (tV (Val.eqNil (t := 113) (by kernel_rfl) rfl) rfl (tE (At.condF rfl (At.skipC (At.thenN (At.seq ?_)))))))
  have hwl : (wd.news.map b64).length = wd.news.length := List.length_map ..
  refine At.region (tM rfl rfl (tM rfl rfl (tV (Val.nilCheck rfl) rfl (tV (Val.field 0 rfl fo_115_0 rfl) rfl (tV (Val.load (i := 0) Tryz.isAgg98 rfl rfl rfl) rfl (tM rfl rfl (At.buildSl (fun a ha => by simp only [List.map_toArray, List.map_cons, List.map_nil, ha.eval (x := (.tmp 42)) rfl]; try rfl) (bs_98_1 _ ) rfl (fun b5 => ?_))))))))
  refine At.appendWin1 (i := 2) (j := 0) (by_ := 8) Tryz.underlying98 info_43 rfl rfl rfl rfl rfl rfl rfl rfl rfl (by rw [hwl]; omega) (by rw [hwl]; omega) rfl (fun v6 => ?_)
  simp only [sc0, scS]
  refine At.drop 0 ?_
  simp only [ec0, ecS]
  refine tV (Val.nilCheck rfl) rfl (tV (Val.field 0 rfl fo_115_0 rfl) rfl (At.winOne 1 rfl (fun ho => (At.store (i := 0) Tryz.sizeOf98 rfl rfl ho rfl (by simp) ?_))))
  simp only [sc0, scS]
  refine At.nil (At.bring 2 rfl ?_)
  simp only [ec0, ecS]
  refine At.bring 2 rfl ?_
  simp only [ec0, ecS]
  refine At.bring 2 rfl ?_
  simp only [ec0, ecS]
  rw [show wd.news.map b64 ++ [b64 x] = (pushW wd x).news.map b64 from by simp [pushW]]
  refine At.unfocusD (wd := pushW wd x) hkl1 hpn (At.rot3 (At.thenN (tR (tA rfl rfl (tE (At.retC (At.ret1 (.inl rfl) rfl rfl rfl (fun w hw => ?_))))))))
  exact ⟨⟨y1.vo, y1.mb, upd y1.g k ((y1.g k).1, v6)⟩, rfl, toDev (F := []) (push_good hgd hk hs) (hw.drop (show List.Sublist [_, _, _, _] _ from (List.Sublist.refl _ |>.cons _ |>.cons_cons _ |>.cons_cons _ |>.cons_cons _ |>.cons_cons _))) rfl (congrArg (wrow tW y1.vo) (olds_same (ws := (stepD σ).ws) (wd' := pushW wd x) hk1 rfl).symm) (congrArg (mapR y1.mb) (mk_keep hk1 hn hpn).symm) rfl⟩
theorem store_no (p : Nat) (γ : Gh) (σ : Ds) (a : Int) (x : BitVec 64) (w : World) (ha : placeE σ a ≠ 0) (hd : (Dev p γ σ).holds w) :
    Upd Tryz.prog 87 [.pointer (some ⟨p, 0, none⟩), .int .i64 a, b64 x] (Dev p γ σ) (.int .i64 (placeE σ a)) (Dev p γ σ) w := by
 refine enterVc hd Tryz.func87 rfl Tryz.ntmps87 rfl ?_
 have hgd := Dev.good hd
 simp only [envOf]
 refine tR (tA rfl rfl (tE (At.seq (tR (tM rfl rfl (tM rfl rfl (At.callK 0 rfl (fun w hw hr => place_k _ _ _ _ w hr) Tryz.call117 rfl rfl (tA rfl rfl (tE (tR (tM rfl rfl (tV (Val.bin rfl rfl rfl) rfl (tE ?_)))))))))))))
 refine At.cond rfl (fun h1 => ?_) (fun h1 => ?_)
 ·try simp only [hasB, isSizeB, sB] at h1
  refine tR (tM rfl rfl (tA rfl rfl (tE (At.retC (At.thenR (At.ret1 (.inl rfl) rfl rfl rfl (fun w hw => ?_)))))))
  exact ⟨rfl, hw⟩
 ·try simp only [hasB, isSizeB, sB] at h1
  omega
theorem store_0 (p : Nat) (γ : Gh) (σ : Ds) (a : Int) (x : BitVec 64) (w : World) (ha : placeE σ a = 0) (hno : deadB σ = true) (hd : (Dev p γ σ).holds w) :
    Upd Tryz.prog 87 [.pointer (some ⟨p, 0, none⟩), .int .i64 a, b64 x] (Dev p γ σ) (.int .i64 13) (Dev p γ σ) w := by
 refine enterVc hd Tryz.func87 rfl Tryz.ntmps87 rfl ?_
 have hgd := Dev.good hd
 simp only [envOf]
 refine tR (tA rfl rfl (tE (At.seq (tR (tM rfl rfl (tM rfl rfl (At.callK 0 rfl (fun w hw hr => place_k _ _ _ _ w hr) Tryz.call117 rfl rfl (tA rfl rfl (tE (tR (tM rfl rfl (tV (Val.bin rfl rfl rfl) rfl (tE ?_)))))))))))))
 refine At.cond rfl (fun h1 => ?_) (fun h1 => ?_)
 ·try simp only [hasB, isSizeB, sB] at h1
  omega
 ·try simp only [hasB, isSizeB, sB] at h1
  refine At.skipC (At.thenN (At.seq (tR (tM rfl rfl (At.callK 0 rfl (fun w hw hr => step_0 _ _ _ w hno hr) Tryz.call118 rfl rfl (tA rfl rfl (tE (tR (tM rfl rfl (tV (Val.bin rfl rfl rfl) rfl (tE (At.condT rfl (tR (tM rfl rfl (tA rfl rfl (tE (At.retC (At.thenR (At.ret1 (.inl rfl) rfl rfl rfl (fun w hw => ?_))))))))))))))))))))
  exact ⟨rfl, hw⟩
end Go.Proofs.YtfchinibjhcejaaGreatDoor
namespace Go.Proofs.YtfchinibjhcejaaGreatDoor
open Go Go.Wk
def fenceW (w : Wd) : Wd := if w.mark = 0 then w else ⟨(w.news[w.mark - 1]?).getD w.old, w.news.drop w.mark, 0⟩
def fenceD (σ : Ds) : Ds := { σ with ws := σ.ws.map fenceW }
theorem fenceW_calm {w : Wd} (h : w.mark = 0) : fenceW w = w := if_pos h
theorem fence_good {σ : Ds} (hg : Dgood σ) : Dgood (fenceD σ) :=
  ⟨by simpa [fenceD] using hg.pos, by simpa [fenceD] using hg.len, by simpa [fenceD] using hg.lines, hg.steps, hg.left, fun w hm => by
    obtain ⟨u, hu, rfl⟩ := List.mem_map.1 hm
    have := hg.word u hu
    unfold fenceW
    split
    · exact this
    · simp only [List.length_drop, fenceD]; omega⟩
def FInv (W ws : List Wd) (left : Int → Bool) : Prop := ws.length = W.length ∧ ∀ (k : Nat) w, W[k]? = some w → ws[k]? = some (if left (8 * (k : Int)) then w else fenceW w)
theorem finv_start {σ : Ds} (hg : Dgood σ) (g : Nat → Nat × Value) : FInv σ.ws σ.ws (fun k => (mk σ.ws g k).isSome) := ⟨rfl, fun k w hk => by
  rw [hk]
  congr 1
  show w = if (mk σ.ws g (8 * (k : Int))).isSome = true then w else fenceW w
  rw [mk_at]
  by_cases hn : w.news = []
  · rw [mkN_none hk hn]
    have := (hg.word w (List.mem_of_getElem? hk)).1
    rw [hn] at this
    exact (fenceW_calm (by simpa using this)).symm
  · rw [mkN_some hk hn]; rfl⟩
theorem finv_step {W ws : List Wd} {left left' : Int → Bool} {k : Nat} {wd : Wd} (h : FInv W ws left) (hl : left (8 * (k : Int)) = true) (hk : ws[k]? = some wd) (h1 : left' (8 * (k : Int)) = false) (h2 : ∀ q, q ≠ 8 * (k : Int) → left' q = left q) : FInv W (ws.set k (fenceW wd)) left' := ⟨by simpa using h.1, fun j w hj => by
  by_cases e : j = k
  · subst e
    have := h.2 j w hj
    rw [hl, if_pos rfl, hk] at this
    have := Option.some.inj this
    subst this
    rw [h1, if_neg (by simp), List.getElem?_set_self (List.getElem?_eq_some_iff.1 hk).1]
  · rw [List.getElem?_set_ne (Ne.symm e), h2 _ (by omega)]
    exact h.2 j w hj⟩
theorem finv_end {W ws : List Wd} {left : Int → Bool} (h : FInv W ws left) (hl : ∀ k, left k = false) : ws = W.map fenceW := by
  apply List.ext_getElem?
  intro j
  rw [List.getElem?_map]
  cases hj : W[j]? with
  | none => rw [List.getElem?_eq_none (by have := List.getElem?_eq_none_iff.1 hj; rw [h.1]; exact this)]; rfl
  | some w => rw [h.2 j w hj, hl, if_neg (by simp)]; rfl
theorem finv_word {W ws : List Wd} {left : Int → Bool} {k : Nat} {wd : Wd} (h : FInv W ws left) (hl : left (8 * (k : Int)) = true) (hk : ws[k]? = some wd) : W[k]? = some wd := by
  cases hj : W[k]? with
  | none =>
    have h1 := List.getElem?_eq_none_iff.1 hj
    have h2 := (List.getElem?_eq_some_iff.1 hk).1
    rw [h.1] at h2; omega
  | some w =>
    have := h.2 k w hj
    rw [hl, if_pos rfl, hk] at this
    exact this.symm
theorem flush_d (p : Nat) (γ : Gh) (σ : Ds) (a : Int) (f : Nat) (w : World) (h0 : 0 ≤ a) (hl : a < 8 * (σ.ws.length : Int)) (hf : 8 * (f : Int) = a - a % 64) (hs : σ.steps + 1 ≤ 1099511627776) (hno : deadB σ = false) (hd : (Dev p γ σ).holds w) :
    DevU Tryz.prog 119 [.pointer (some ⟨p, 0, none⟩), .int .i64 a] p γ σ (.int .i64 0) (flushK (stepD σ) f 8) w := by
 refine enterVc hd Tryz.func119 rfl Tryz.ntmps119 rfl ?_
 have hgd := Dev.good hd
 have hln := hgd.len
 have hll := hgd.lines
 have hg1 := dgood_step hgd hs
 have hsl : (stepD σ).ws.length = σ.ws.length := rfl
 have hf8 : f % 8 = 0 := by omega
 simp only [envOf]
 refine tR (tA rfl rfl (tE (At.seq (tR (tM rfl rfl (tM rfl rfl (At.callK 0 rfl (fun w hw hr => has_k _ _ _ _ _ w hr) Tryz.call115 rfl rfl (tV (Val.not rfl) rfl (tE ?_)))))))))
 refine At.cond rfl (fun h1 => ?_) (fun h1 => ?_)
 ·try simp only [hasB, isSizeB, sB] at h1
  omega
 ·try simp only [hasB, isSizeB, sB] at h1
  refine At.skipC (At.thenN (At.seq (tR (tM rfl rfl (At.callD 0 rfl (fun w hw hr => step_d _ _ _ w hs hno hr) Tryz.call118 rfl rfl (fun y2 => ?_))))))
  simp only [sc0, scS]
  refine tA rfl rfl (tE (tR (tM rfl rfl (tV (Val.bin rfl rfl rfl) rfl (tE (At.condF rfl (At.skipC (At.thenN (tR (tM rfl rfl (tM rfl rfl (tV (Val.remI rfl rfl (by omega) (by decide)) rfl (tV (Val.subI rfl rfl (by omega) (by omega)) rfl ?_)))))))))))))
  rw [← hf]
  refine tA rfl rfl (tE (At.seq (At.seq (At.openS 0 rfl ?_))))
  simp only [devL, List.cons_append, List.nil_append, ec0, ecS]
  refine At.region (tM rfl rfl (tA rfl rfl (tE (At.block ?_))))
  skip
  refine At.loop (σ := Nat) (fun j => j ≤ 8) (fun j => [(0, .pointer (some ⟨p, 0, none⟩)), (6, .int .i64 (8 * (f : Int))), (7, .int .i64 (8 * ((f + j : Nat) : Int)))]) (fun j => [blk p tDv [y2.vo, .map (some y2.mb), .int .i64 ((stepD σ).steps : Int), .bool (stepD σ).armed, .int .i64 ((stepD σ).left : Int)], wrow tW y2.vo (olds (stepD σ).ws), mapR y2.mb (mk (flushK (stepD σ) f j).ws y2.g), fam (dI (flushK (stepD σ) f j).ws y2.g), factR (Dgood (stepD σ))]) (fun j => 8 - j) 0 (Nat.zero_le _) (Sub.cons rfl (Sub.cons rfl (Sub.cons rfl Sub.nil))) (List.Perm.refl _) ?_
  intro j hs
  have hfr := flushK_rest (stepD σ) f j
  refine At.seq (tR (tM rfl rfl (tM rfl rfl ?_)))
  first | refine tV (Val.addI rfl rfl (by omega) (by omega)) rfl ?_ | refine tV (Val.bin rfl rfl rfl) rfl ?_
  refine tV (Val.bin rfl rfl rfl) rfl (tE ?_)
  refine At.cond rfl (fun h3 => ?_) (fun h3 => ?_)
  ·try simp only [hasB, isSizeB, sB] at h3
   have hj : j < 8 := by omega
   have hfj : f + j < (stepD σ).ws.length := by omega
   refine At.skipC (At.thenN (At.seq (At.block (tR (tM rfl rfl (tV (Val.nilCheck rfl) rfl (tV (Val.field 1 rfl fo_111_1 rfl) rfl (tV (Val.load (i := 0) Tryz.isAgg109 rfl rfl rfl) rfl (tM rfl rfl (tV (Val.look (i := 2) Tryz.underlying109 Tryz.underlying3 Tryz.zeroValue113 rfl rfl rfl) rfl ?_))))))))))
   obtain ⟨wd, hkw⟩ : ∃ wd, (flushK (stepD σ) f j).ws[f + j]? = some wd := ⟨_, List.getElem?_eq_getElem (by rw [hfr.2.2.2.1]; exact hfj)⟩
   by_cases hn : wd.news = []
   ·rw [mk_at, mkN_none hkw hn]
    refine tA rfl rfl (tE (tR (tM rfl rfl (tV (Val.neNil (t := 113) (by kernel_rfl) rfl) rfl (tE (At.condF rfl (At.skipC (At.blkN (At.thenN (At.region (tM rfl rfl ?_)))))))))))
    first | refine tV (Val.addI rfl rfl (by omega) (by omega)) rfl ?_ | refine tV (Val.bin rfl rfl rfl) rfl ?_
    refine tA rfl rfl (tE ?_)
    exact At.again (j + 1) (show j + 1 ≤ 8 by omega) (by omega) (Sub.cons rfl (Sub.cons rfl (Sub.cons (congrArg (fun z => some (Value.int IntKind.i64 z)) (by omega)) Sub.nil))) (by rw [flushK_nil hg1 hkw hn])
   ·rw [mk_at, mkN_some hkw hn]
    refine tA rfl rfl (tE (tR (tM rfl rfl (tV (Val.neNil (t := 113) (by kernel_rfl) rfl) rfl (tE (At.condT rfl (At.focusD 3 rfl hkw hn ?_)))))))
    simp only [ec0, ecS]
    refine At.region (tM rfl rfl (tM rfl rfl (tV (Val.nilCheck rfl) rfl (tV (Val.field 0 rfl fo_115_0 rfl) rfl (tV (Val.load (i := 0) Tryz.isAgg98 rfl rfl rfl) rfl (tV (Val.lenWin (i := 1) rfl Tryz.underlying98 rfl) rfl (tV (Val.nilCheck rfl) rfl (tV (Val.field 1 rfl fo_115_1 rfl) rfl (At.store (i := 0) Tryz.sizeOf3 rfl rfl rfl rfl (by first | decide | simp) ?_)))))))))
    simp only [sc0, scS]
    refine At.nil ?_
    rw [List.length_map]
    refine At.unfocusD (wd := markW wd) (List.getElem?_eq_some_iff.1 hkw).1 hn ?_
    refine At.rot3 ?_
    rw [← mk_keep (v' := (y2.g (f + j)).2) (wd' := markW wd) hkw hn hn, show upd y2.g (f + j) ((y2.g (f + j)).1, (y2.g (f + j)).2) = y2.g from upd_same _ _, show (flushK (stepD σ) f j).ws.set (f + j) (markW wd) = (flushK (stepD σ) f (j + 1)).ws from by rw [flushK_succ hkw]; rfl]
    refine At.blkN (At.thenN (At.region (tM rfl rfl ?_)))
    first | refine tV (Val.addI rfl rfl (by omega) (by omega)) rfl ?_ | refine tV (Val.bin rfl rfl rfl) rfl ?_
    refine tA rfl rfl (tE ?_)
    exact At.again (j + 1) (show j + 1 ≤ 8 by omega) (by omega) (Sub.cons rfl (Sub.cons rfl (Sub.cons (congrArg (fun z => some (Value.int IntKind.i64 z)) (by omega)) Sub.nil))) (List.Perm.refl _)
  ·try simp only [hasB, isSizeB, sB] at h3
   obtain rfl : j = 8 := by omega
   refine At.exitC (At.thenX (At.thenX (At.blkX (At.thenN (tR (tA rfl rfl (tE (At.retC (At.ret1 (.inl rfl) rfl rfl rfl (fun w hw => ?_))))))))))
   obtain ⟨e1, e2, e3, _, e5⟩ := flushK_rest (stepD σ) f 8
   exact ⟨⟨y2.vo, y2.mb, y2.g⟩, rfl, toDev (F := []) (flushK_good f hg1 8) (hw.drop (show List.Sublist [_, _, _, _] _ from (List.Sublist.refl _ |>.cons _ |>.cons_cons _ |>.cons_cons _ |>.cons_cons _ |>.cons_cons _))) (by rw [e1, e2, e3]) (by rw [e5]) rfl rfl⟩
theorem flush_0 (p : Nat) (γ : Gh) (σ : Ds) (a : Int) (w : World) (h0 : 0 ≤ a) (hl : a < 8 * (σ.ws.length : Int)) (hno : deadB σ = true) (hd : (Dev p γ σ).holds w) :
    Upd Tryz.prog 119 [.pointer (some ⟨p, 0, none⟩), .int .i64 a] (Dev p γ σ) (.int .i64 13) (Dev p γ σ) w := by
 refine enterVc hd Tryz.func119 rfl Tryz.ntmps119 rfl ?_
 have hgd := Dev.good hd
 simp only [envOf]
 refine tR (tA rfl rfl (tE (At.seq (tR (tM rfl rfl (tM rfl rfl (At.callK 0 rfl (fun w hw hr => has_k _ _ _ _ _ w hr) Tryz.call115 rfl rfl (tV (Val.not rfl) rfl (tE ?_)))))))))
 refine At.cond rfl (fun h1 => ?_) (fun h1 => ?_)
 ·try simp only [hasB, isSizeB, sB] at h1
  omega
 ·try simp only [hasB, isSizeB, sB] at h1
  refine At.skipC (At.thenN (At.seq (tR (tM rfl rfl (At.callK 0 rfl (fun w hw hr => step_0 _ _ _ w hno hr) Tryz.call118 rfl rfl (tA rfl rfl (tE (tR (tM rfl rfl (tV (Val.bin rfl rfl rfl) rfl (tE (At.condT rfl (tR (tM rfl rfl (tA rfl rfl (tE (At.retC (At.thenR (At.ret1 (.inl rfl) rfl rfl rfl (fun w hw => ?_))))))))))))))))))))
  exact ⟨rfl, hw⟩
end Go.Proofs.YtfchinibjhcejaaGreatDoor
namespace Go.Proofs.YtfchinibjhcejaaGreatDoor
open Go Go.Wk
theorem fence_d (p : Nat) (γ : Gh) (σ : Ds) (w : World) (hs : σ.steps + 1 ≤ 1099511627776) (hno : deadB σ = false) (hd : (Dev p γ σ).holds w) :
    DevU Tryz.prog 89 [.pointer (some ⟨p, 0, none⟩)] p γ σ (.int .i64 0) (fenceD (stepD σ)) w := by
 refine enterVc hd Tryz.func89 rfl Tryz.ntmps89 rfl ?_
 have hgd := Dev.good hd
 have hln := hgd.len
 have hg1 := dgood_step hgd hs
 have hstp := hg1.steps
 simp only [envOf]
 refine tR (tA rfl rfl (tE (At.seq (tR (tM rfl rfl (At.callD 0 rfl (fun w hw hr => step_d _ _ _ w hs hno hr) Tryz.call118 rfl rfl (fun y1 => ?_)))))))
 simp only [sc0, scS]
 refine tA rfl rfl (tE (tR (tM rfl rfl (tV (Val.bin rfl rfl rfl) rfl (tE (At.condF rfl (At.skipC (At.thenN (At.seq (At.seq (At.openS 0 rfl ?_)))))))))))
 simp only [devL, List.cons_append, List.nil_append, ec0, ecS]
 refine At.region (tM rfl rfl (tV (Val.nilCheck rfl) rfl (tV (Val.field 1 rfl fo_111_1 rfl) rfl (tV (Val.load (i := 0) Tryz.isAgg109 rfl rfl rfl) rfl (At.range (i := 2) Tryz.underlying109 rfl rfl rfl (fun r2 cnt3 => ?_))))))
 simp only [sc0, scS]
 refine tE (At.block ?_)
 skip
 refine At.loop (σ := (List Wd × (Nat → Nat × Value)) × (Int → Bool) × Option (Int × Value) × Nat) (fun s => FInv (stepD σ).ws s.1.1 s.2.1) (fun s => [(0, .pointer (some ⟨p, 0, none⟩)), (15, .pointer (some ⟨r2, 0, none⟩))]) (fun s => [blk p tDv [y1.vo, .map (some y1.mb), .int .i64 ((stepD σ).steps : Int), .bool (stepD σ).armed, .int .i64 ((stepD σ).left : Int)], wrow tW y1.vo (olds s.1.1), iterR y1.mb r2 (mk s.1.1 s.1.2) s.2.1 s.2.2.1 s.2.2.2, fam (dI s.1.1 s.1.2), factR (Dgood (stepD σ))]) (fun s => s.2.2.2) (((stepD σ).ws, y1.g), (fun k => (mk (stepD σ).ws y1.g k).isSome), none, cnt3) (finv_start hg1 _) (Sub.cons rfl (Sub.cons rfl Sub.nil)) (List.Perm.refl _) ?_
 intro s hs
 obtain ⟨⟨ws, g⟩, left, cur, cnt⟩ := s
 dsimp only at hs ⊢
 refine tR ?_
 refine At.next (i := 2) rfl rfl rfl (fun hl => ?_) (fun x v cn hl hf hcn => ?_)
 skip
 ·refine tV (Val.extract rfl rfl) rfl (tE (At.seq (At.condF rfl (At.exitC (At.thenX (At.thenX (At.blkX (At.thenN (At.seq (At.iterEnd 2 rfl ?_))))))))))
  simp only [sc0, scS]
  refine At.region (tA rfl rfl (tE (At.retC (At.ret1 (.inl rfl) rfl rfl rfl (fun w hw => ?_)))))
  exact ⟨⟨y1.vo, y1.mb, g⟩, rfl, toDev (F := []) (fence_good hg1) (hw.drop (show List.Sublist [_, _, _, _] _ from (List.Sublist.refl _ |>.cons _ |>.cons_cons _ |>.cons_cons _ |>.cons_cons _ |>.cons_cons _))) rfl (by rw [finv_end hs hl]; rfl) (by rw [finv_end hs hl]; rfl) (by rw [finv_end hs hl]; rfl)⟩
 ·simp only [sc0, scS]
  obtain ⟨k, wd, rfl, hk, hn, rfl⟩ := mk_inv hf
  have hwk := finv_word hs hl hk
  have hwd := hg1.word wd (List.mem_of_getElem? hwk)
  have hkl := (List.getElem?_eq_some_iff.1 hk).1
  have hlen := hs.1
  have hsl : (stepD σ).ws.length = σ.ws.length := rfl
  refine tV (Val.extract rfl rfl) rfl (tE (At.seq (At.condT rfl (At.skipC (At.thenN (At.block (tR (tV (Val.entry (i := 2) rfl rfl) rfl (tV (Val.extract rfl rfl) rfl (tV (Val.extract rfl rfl) rfl (tA rfl rfl (tA rfl rfl (tE (At.seq (tR (tM rfl rfl (tV (Val.nilCheck rfl) rfl (tV (Val.field 1 rfl fo_115_1 rfl) rfl (tV (Val.loadDbt (i := 3) (q := 1) Tryz.isAgg3 rfl rfl hk hn rfl) rfl (tV (Val.bin rfl rfl rfl) rfl (tE ?_)))))))))))))))))))))
  refine At.cond rfl (fun h4 => ?_) (fun h4 => ?_)
  ·try simp only [hasB, isSizeB, sB] at h4
   have fz : ws.set k (fenceW wd) = ws := by rw [fenceW_calm (by omega)]; exact set_get hk
   refine At.exitC (At.thenX (At.blkX (At.thenN ?_)))
   exact At.again ((ws.set k (fenceW wd), g), (fun q => left q && q != 8 * (k : Int)), some (8 * (k : Int), .pointer (some ⟨(g k).1, 0, none⟩)), cn) (finv_step hs hl hk (by simp) (fun q hq => by simp [hq])) (show cn < cnt by omega) (Sub.cons rfl (Sub.cons rfl Sub.nil)) (by rw [fz])
  ·try simp only [hasB, isSizeB, sB] at h4
   refine At.skipC (At.thenN (At.seq ?_))
   have fz : fenceW wd = ⟨(wd.news[wd.mark - 1]?).getD wd.old, wd.news.drop wd.mark, 0⟩ := if_neg (by omega)
   obtain ⟨z, hz⟩ : ∃ z, wd.news[wd.mark - 1]? = some z := ⟨_, List.getElem?_eq_getElem (by omega)⟩
   rw [hz, Option.getD_some] at fz
   refine At.dbtSome 3 rfl hk hn (fun b o c hv => (At.dbtCap 3 rfl hk hn hv (fun hcap => (At.tail 18 rfl (by decide +kernel) ?_))))
   simp only [List.take_succ_cons, List.take_zero, List.drop_succ_cons, List.drop_zero]
   refine qM rfl rfl (qV (Val.nilCheck rfl) rfl (qV (Val.field 0 rfl fo_111_0 rfl) rfl (qV (Val.load (i := 0) Tryz.isAgg98 rfl rfl rfl) rfl (qM rfl rfl (qV (Val.quoI rfl rfl (by omega) (by omega) (by decide)) rfl ?_)))))
   rw [show 8 * (k : Int) / 8 = (k : Int) from by omega]
   refine qM rfl rfl (qV (Val.nilCheck rfl) rfl (qV (Val.field 0 rfl fo_115_0 rfl) rfl (qV (Val.loadDbt (i := 3) (q := 0) Tryz.isAgg98 rfl rfl hk hn rfl) rfl (qM rfl rfl (qV (Val.nilCheck rfl) rfl (qV (Val.field 1 rfl fo_115_1 rfl) rfl (qV (Val.loadDbt (i := 3) (q := 1) Tryz.isAgg3 rfl rfl hk hn rfl) rfl (qV (Val.subI rfl rfl (by omega) (by omega)) rfl ?_))))))))
   rw [hv]
   refine qV (Val.indexSl (o + (wd.mark - 1)) (by omega) Tryz.underlying98 Tryz.sizeOf43 rfl rfl (by omega) (by omega)) rfl (qV (Val.loadNews (i := 3) Tryz.isAgg43 rfl rfl hk hn hv rfl hz) rfl ?_)
   refine qV (Val.indexRow (i := 1) k (by omega) Tryz.underlying98 Tryz.sizeOf43 rfl rfl rfl (by omega) (by rw [olds_length]; omega)) rfl (QAt.fin ?_)
   refine At.storeRow (i := 1) Tryz.sizeOf43 rfl rfl rfl rfl (by rw [List.length_map, olds_length]; exact hkl) ?_
   simp only [sc0, scS]
   rw [← List.map_set, show (olds ws).set k z = olds (ws.set k (fenceW wd)) from by rw [olds_set, fz], show (olds ws).length = (olds (ws.set k (fenceW wd))).length from by rw [olds_length, olds_length, List.length_set]]
   refine tE (At.seq (At.focusD 3 rfl hk hn ?_))
   simp only [ec0, ecS]
   rw [hv]
   refine At.tail 12 rfl (by decide +kernel) ?_
   simp only [List.take_succ_cons, List.take_zero, List.drop_succ_cons, List.drop_zero]
   refine qM rfl rfl (qM rfl rfl (qV (Val.nilCheck rfl) rfl (qV (Val.field 0 rfl fo_115_0 rfl) rfl (qV (Val.load (i := 0) Tryz.isAgg98 rfl rfl rfl) rfl (qM rfl rfl (qV (Val.nilCheck rfl) rfl (qV (Val.field 1 rfl fo_115_1 rfl) rfl (qV (Val.load (i := 0) Tryz.isAgg3 rfl rfl rfl) rfl (qV (Val.cutSl wd.mark wd.news.length _ _ _ Tryz.underlying98 Tryz.sizeOf43 rfl ⟨_, _, rfl, by omega, by omega⟩ rfl (by omega) hcap rfl rfl rfl) rfl (qV (Val.nilCheck rfl) rfl (qV (Val.field 0 rfl fo_115_0 rfl) rfl (QAt.fin (At.store (i := 0) Tryz.sizeOf98 rfl rfl rfl rfl (by simp) ?_)))))))))))))
   simp only [sc0, scS]
   refine At.nil ?_
   refine At.winCut 1 wd.mark rfl (by rw [List.length_map]; omega) ?_
   simp only [sc0, scS]
   rw [← List.map_drop]
   refine At.thenN (tR (tM rfl rfl (tV (Val.nilCheck rfl) rfl (tV (Val.field 1 rfl fo_115_1 rfl) rfl (At.store (i := 0) Tryz.sizeOf3 rfl rfl rfl rfl (by simp) ?_)))))
   simp only [sc0, scS]
   refine tE (tR (tM rfl rfl (tV (Val.nilCheck rfl) rfl (tV (Val.field 0 rfl fo_115_0 rfl) rfl (tV (Val.load (i := 0) Tryz.isAgg98 rfl rfl rfl) rfl (tV (Val.len (bt := #[]) Tryz.underlying98 rfl) rfl (tV (Val.bin rfl rfl rfl) rfl (tE ?_))))))))
   refine At.cond rfl (fun h5 => ?_) (fun h5 => ?_)
   ·try simp only [hasB, isSizeB, sB] at h5
    refine At.region (tM rfl rfl (tV (Val.nilCheck rfl) rfl (tV (Val.field 1 rfl fo_111_1 rfl) rfl (tV (Val.load (i := 3) Tryz.isAgg109 rfl rfl rfl) rfl (tM rfl rfl (At.delIt (i := 5) Tryz.underlying109 Tryz.underlying3 rfl rfl rfl (fun cn6 hc7 => ?_)))))))
    simp only [sc0, scS]
    refine At.nil ?_
    have hdn : (fenceW wd).news = [] := by rw [fz]; exact List.drop_eq_nil_of_le (by omega)
    refine At.dropD (wd := fenceW wd) hkl hdn (At.rot3 ?_)
    rw [← mk_drop (g := g) hkl hdn]
    refine At.blkN (At.thenN ?_)
    exact At.again ((ws.set k (fenceW wd), g), (fun q => (left q && q != 8 * (k : Int)) && q != 8 * (k : Int)), none, cn6) (finv_step hs hl hk (by simp) (fun q hq => by simp [hq])) (show cn6 < cnt by omega) (Sub.cons rfl (Sub.cons rfl Sub.nil)) (List.Perm.refl _)
   ·try simp only [hasB, isSizeB, sB] at h5
    have hdn : (fenceW wd).news ≠ [] := by rw [fz]; exact fun e => by have := congrArg List.length e; simp at this; omega
    rw [show wd.news.drop wd.mark = (fenceW wd).news from by rw [fz]]
    refine At.unfocusZ (wd := fenceW wd) (by rw [fz]) hkl hdn (At.rot3 ?_)
    rw [← mk_keep (v' := .slice (some ⟨b, if c = wd.mark then o else o + wd.mark * 1, none⟩) (wd.news.length - wd.mark) (c - wd.mark)) hk hn hdn]
    refine At.skipC (At.blkN (At.thenN ?_))
    exact At.again ((ws.set k (fenceW wd), upd g k ((g k).1, (.slice (some ⟨b, if c = wd.mark then o else o + wd.mark * 1, none⟩) (wd.news.length - wd.mark) (c - wd.mark)))), (fun q => left q && q != 8 * (k : Int)), some (8 * (k : Int), .pointer (some ⟨(g k).1, 0, none⟩)), cn) (finv_step hs hl hk (by simp) (fun q hq => by simp [hq])) (show cn < cnt by omega) (Sub.cons rfl (Sub.cons rfl Sub.nil)) (List.Perm.refl _)
theorem fence_0 (p : Nat) (γ : Gh) (σ : Ds) (w : World) (hno : deadB σ = true) (hd : (Dev p γ σ).holds w) :
    Upd Tryz.prog 89 [.pointer (some ⟨p, 0, none⟩)] (Dev p γ σ) (.int .i64 13) (Dev p γ σ) w := by
 refine enterVc hd Tryz.func89 rfl Tryz.ntmps89 rfl ?_
 have hgd := Dev.good hd
 simp only [envOf]
 refine tR (tA rfl rfl (tE (At.seq (tR (tM rfl rfl (At.callK 0 rfl (fun w hw hr => step_0 _ _ _ w hno hr) Tryz.call118 rfl rfl (tA rfl rfl (tE (tR (tM rfl rfl (tV (Val.bin rfl rfl rfl) rfl (tE (At.condT rfl (tR (tM rfl rfl (tA rfl rfl (tE (At.retC (At.thenR (At.ret1 (.inl rfl) rfl rfl rfl (fun w hw => ?_)))))))))))))))))))))
 exact ⟨rfl, hw⟩
end Go.Proofs.YtfchinibjhcejaaGreatDoor
namespace Go.Proofs.YtfchinibjhcejaaGreatDoor
open Go Go.Wk
def lineD (σ : Ds) (l : Nat) : Ds := flushK (stepD σ) (8 * l) 8
def linesE : Nat → Ds → Nat → Int × Ds
  | _, σ, 0 => (0, σ)
  | l, σ, k + 1 => if deadB σ = true then (13, σ) else linesE (l + 1) (lineD σ l) k
theorem linesE_dead {l k : Nat} {σ : Ds} (h : deadB σ = true) : linesE l σ (k + 1) = (13, σ) := by unfold linesE; rw [if_pos h]
theorem linesE_live {l k : Nat} {σ : Ds} (h : deadB σ = false) : linesE l σ (k + 1) = linesE (l + 1) (lineD σ l) k := by
  show (if deadB σ = true then (13, σ) else linesE (l + 1) (lineD σ l) k) = _
  rw [if_neg (by rw [h]; simp)]
theorem lineD_rest (σ : Ds) (l : Nat) : (lineD σ l).steps = σ.steps + 1 ∧ (lineD σ l).armed = σ.armed ∧ (lineD σ l).ws.length = σ.ws.length := by
  obtain ⟨h1, h2, _, h4, _⟩ := flushK_rest (stepD σ) (8 * l) 8
  exact ⟨h1, h2, h4⟩
def storeD (σ : Ds) (k : Nat) (x : BitVec 64) : Ds := match σ.ws[k]? with | some w => setD (stepD σ) k (pushW w x) | none => σ
def storesE : Nat → Ds → List (BitVec 64) → Int × Ds
  | _, σ, [] => (0, σ)
  | k, σ, x :: l => if deadB σ = true then (13, σ) else storesE (k + 1) (storeD σ k x) l
theorem storesE_dead {k : Nat} {σ : Ds} {x : BitVec 64} {l : List (BitVec 64)} (h : deadB σ = true) : storesE k σ (x :: l) = (13, σ) := by unfold storesE; rw [if_pos h]
theorem storesE_live {k : Nat} {σ : Ds} {x : BitVec 64} {l : List (BitVec 64)} (h : deadB σ = false) : storesE k σ (x :: l) = storesE (k + 1) (storeD σ k x) l := by
  show (if deadB σ = true then (13, σ) else storesE (k + 1) (storeD σ k x) l) = _
  rw [if_neg (by rw [h]; simp)]
theorem storeD_some {σ : Ds} {k : Nat} {x : BitVec 64} {w : Wd} (h : σ.ws[k]? = some w) : storeD σ k x = setD (stepD σ) k (pushW w x) := by unfold storeD; rw [h]
theorem storeD_rest {σ : Ds} {k : Nat} (x : BitVec 64) (h : k < σ.ws.length) : (storeD σ k x).steps = σ.steps + 1 ∧ (storeD σ k x).armed = σ.armed ∧ (storeD σ k x).ws.length = σ.ws.length := by
  rw [storeD_some (List.getElem?_eq_getElem h)]
  exact ⟨rfl, rfl, by simp [setD, stepD]⟩
def cntP (a n cnt : Nat) : Prop := (n = 0 → cnt = 0) ∧ (0 < n → cnt = (a + n - 1) / 64 + 1 - a / 64)
def cntL (a n : Nat) : Nat := if n = 0 then 0 else (a + n - 1) / 64 + 1 - a / 64
theorem cntL_P (a n : Nat) : cntP a n (cntL a n) := ⟨fun h => by unfold cntL; rw [if_pos h], fun h => by unfold cntL; rw [if_neg (by omega)]⟩
theorem drop_cons {l : List (BitVec 64)} {j : Nat} {x : BitVec 64} (h : l[j]? = some x) : l.drop j = x :: l.drop (j + 1) := by
  have hj := List.getElem?_eq_some_iff.1 h
  rw [List.drop_eq_getElem_cons hj.1, hj.2]
theorem place_at' {σ : Ds} {a : Int} (h0 : 0 ≤ a) (h1 : a < 8 * (σ.ws.length : Int)) (h8 : a % 8 = 0) : placeE σ a = 0 := by
  obtain ⟨k, rfl⟩ : ∃ k : Nat, a = 8 * (k : Int) := ⟨(a / 8).toNat, by omega⟩
  exact place_at (by omega)
theorem flushAll_d (p : Nat) (γ : Gh) (σ : Ds) (a n cnt : Nat) (w : World) (han : a + n ≤ 8 * σ.ws.length) (hct : cntP a n cnt) (hst : σ.steps + cnt ≤ 1099511627776) (hd : (Dev p γ σ).holds w) :
    DevU Tryz.prog 88 [.pointer (some ⟨p, 0, none⟩), .int .i64 (a : Int), .int .i64 (n : Int)] p γ σ (.int .i64 (linesE (a / 64) σ cnt).1) (linesE (a / 64) σ cnt).2 w := by
 refine enterVc hd Tryz.func88 rfl Tryz.ntmps88 rfl ?_
 have hgd := Dev.good hd
 have hln := hgd.len
 obtain ⟨hc0, hc1⟩ := hct
 simp only [envOf]
 refine tR (tA rfl rfl (tE (At.seq (tR (tM rfl rfl (tM rfl rfl (tM rfl rfl (At.callK 0 rfl (fun w hw hr => has_k _ _ _ _ _ w hr) Tryz.call115 rfl rfl (tV (Val.not rfl) rfl (tE ?_))))))))))
 refine At.cond rfl (fun h1 => ?_) (fun h1 => ?_)
 ·try simp only [hasB, isSizeB, sB] at h1
  omega
 ·try simp only [hasB, isSizeB, sB] at h1
  refine At.skipC (At.thenN (At.seq (tR (tM rfl rfl (tM rfl rfl ?_)))))
  first | refine tV (Val.remI rfl rfl (by omega) (by decide)) rfl ?_ | refine tV (Val.rem rfl rfl (by decide)) rfl ?_
  first | refine tV (Val.subI rfl rfl (by omega) (by omega)) rfl ?_ | refine tV (Val.bin rfl rfl rfl) rfl ?_
  refine tA rfl rfl (tE (At.block ?_))
  skip
  refine At.loop (σ := (Nat × Ds) × Gh) (fun s => s.1.1 ≤ cnt ∧ linesE (a / 64) σ cnt = linesE (a / 64 + s.1.1) s.1.2 (cnt - s.1.1) ∧ s.1.2.ws.length = σ.ws.length ∧ s.1.2.steps = σ.steps + s.1.1) (fun s => [(0, .pointer (some ⟨p, 0, none⟩)), (1, .int .i64 (a : Int)), (2, .int .i64 (n : Int)), (7, .int .i64 (64 * (((a / 64 : Nat) : Int) + (s.1.1 : Int))))]) (fun s => [Dev p s.2 s.1.2]) (fun s => cnt - s.1.1) ((0, σ), γ) ⟨Nat.zero_le _, rfl, rfl, rfl⟩ (Sub.cons rfl (Sub.cons rfl (Sub.cons rfl (Sub.cons (congrArg (fun z => some (Value.int IntKind.i64 z)) (by dsimp only; omega)) Sub.nil)))) (List.Perm.refl _) ?_
  intro s hs
  obtain ⟨⟨j, σ1⟩, γ1⟩ := s
  dsimp only at hs ⊢
  obtain ⟨hj, he, hl1, hs1⟩ := hs
  refine At.seq (tR (tM rfl rfl (tM rfl rfl (tM rfl rfl ?_))))
  first | refine tV (Val.addI rfl rfl (by omega) (by omega)) rfl ?_ | refine tV (Val.bin rfl rfl rfl) rfl ?_
  refine tV (Val.bin rfl rfl rfl) rfl (At.weaken [(0, _), (1, _), (2, _), (7, _), (22, _)] (Sub.cons rfl (Sub.cons rfl (Sub.cons rfl (Sub.cons rfl (Sub.cons rfl Sub.nil))))) ?_)
  refine At.boolMeet 4 26 (decide (j < cnt)) ?_ ?_
  ·simp only [List.take_succ_cons, List.take_zero]
   refine tM rfl rfl ?_
   refine At.split (t := 23) rfl (fun h2 => ?_) (fun h2 => ?_)
   ·try simp only [hasB, isSizeB, sB] at h2
    refine At.yes rfl rfl (tM rfl rfl (At.yes rfl rfl (tV (Val.bin rfl rfl rfl) rfl (tV (Val.pickT rfl rfl) rfl (At.nil ?_)))))
    exact At.boolEnd rfl (by apply Bool.eq_iff_iff.2; (simp only [decide_eq_true_eq, Bool.false_eq_true, false_iff, true_iff, gt_iff_lt, ge_iff_le]) <;> omega) (by repeat (first | exact Sub.nil | refine Sub.cons rfl ?_))
   ·try simp only [hasB, isSizeB, sB] at h2
    refine At.no rfl rfl rfl rfl (At.no rfl rfl rfl rfl (tV (Val.pickF rfl rfl) rfl (At.nil ?_)))
    exact At.boolEnd rfl (by apply Bool.eq_iff_iff.2; (simp only [decide_eq_true_eq, Bool.false_eq_true, false_iff, true_iff, gt_iff_lt, ge_iff_le]) <;> omega) (by repeat (first | exact Sub.nil | refine Sub.cons rfl ?_))
  ·simp only [List.drop_succ_cons, List.drop_zero]
   refine tE ?_
   refine At.cond rfl (fun h3 => ?_) (fun h3 => ?_)
   ·try simp only [hasB, isSizeB, sB] at h3
    refine At.skipC (At.thenN (At.seq (At.block (tR (tM rfl rfl (tM rfl rfl ?_))))))
    cases hdb : deadB σ1
    ·refine At.callD 0 rfl (fun w hw hr => flush_d _ _ _ (64 * ((a / 64 : Nat) + j)) (8 * (a / 64 + j)) w (by omega) (by omega) (by omega) (by omega) hdb hr) Tryz.call119 rfl rfl (fun y4 => ?_)
     simp only [sc0, scS]
     refine tA rfl rfl (tE (tR (tM rfl rfl (tV (Val.bin rfl rfl rfl) rfl (tE (At.condF rfl (At.skipC (At.blkN (At.thenN (At.region (tM rfl rfl ?_)))))))))))
     first | refine tV (Val.addI rfl rfl (by omega) (by omega)) rfl ?_ | refine tV (Val.bin rfl rfl rfl) rfl ?_
     refine tA rfl rfl (tE ?_)
     exact At.again ((j + 1, lineD σ1 (a / 64 + j)), y4) ⟨(show j + 1 ≤ cnt by omega), (by rw [he, show cnt - j = (cnt - (j + 1)) + 1 by omega, linesE_live hdb]; rfl), (lineD_rest σ1 _).2.2.trans hl1, (show (lineD σ1 (a / 64 + j)).steps = σ.steps + (j + 1) by have := (lineD_rest σ1 (a / 64 + j)).1; omega)⟩ (by dsimp only; omega) (Sub.cons rfl (Sub.cons rfl (Sub.cons rfl (Sub.cons (congrArg (fun z => some (Value.int IntKind.i64 z)) (by dsimp only; omega)) Sub.nil)))) (List.Perm.refl _)
    ·refine At.callK 0 rfl (fun w hw hr => flush_0 _ _ _ _ w (by omega) (by omega) hdb hr) Tryz.call119 rfl rfl (tA rfl rfl (tE (tR (tM rfl rfl (tV (Val.bin rfl rfl rfl) rfl (tE (At.condT rfl (tR (tM rfl rfl (tA rfl rfl (tE (At.retC (At.blkR (At.thenR (At.thenR (At.blkR (At.thenR (At.ret1 (.inl rfl) rfl rfl rfl (fun w hw => ?_)))))))))))))))))))
     rw [he, show cnt - j = (cnt - j - 1) + 1 by omega, linesE_dead hdb]
     exact ⟨_, rfl, hw⟩
   ·try simp only [hasB, isSizeB, sB] at h3
    refine At.exitC (At.thenX (At.thenX (At.blkX (At.thenN (tR (tA rfl rfl (tE (At.retC (At.ret1 (.inl rfl) rfl rfl rfl (fun w hw => ?_))))))))))
    rw [he, show cnt - j = 0 by omega]
    exact ⟨_, rfl, hw⟩
theorem flushAll_no (p : Nat) (γ : Gh) (σ : Ds) (a n : Int) (w : World) (ha : hasB σ a n = false) (hd : (Dev p γ σ).holds w) :
    Upd Tryz.prog 88 [.pointer (some ⟨p, 0, none⟩), .int .i64 a, .int .i64 n] (Dev p γ σ) (.int .i64 11) (Dev p γ σ) w := by
 refine enterVc hd Tryz.func88 rfl Tryz.ntmps88 rfl ?_
 have hgd := Dev.good hd
 simp only [envOf]
 refine tR (tA rfl rfl (tE (At.seq (tR (tM rfl rfl (tM rfl rfl (tM rfl rfl (At.callK 0 rfl (fun w hw hr => has_k _ _ _ _ _ w hr) Tryz.call115 rfl rfl (tV (Val.not rfl) rfl (tE ?_))))))))))
 refine At.cond rfl (fun h1 => ?_) (fun h1 => ?_)
 ·refine tR (tA rfl rfl (tE (At.retC (At.thenR (At.ret1 (.inl rfl) rfl rfl rfl (fun w hw => ?_))))))
  exact ⟨rfl, hw⟩
 ·rw [ha] at h1; cases h1
end Go.Proofs.YtfchinibjhcejaaGreatDoor
namespace Go.Proofs.YtfchinibjhcejaaGreatDoor
open Go Go.Shelf Go.Sort Go.RowKit Go.Proofs
def sort_ren : Go.Shelf.Ren := ⟨fun | 125 => 122 | 128 => 148 | 129 => 149 | 189 => 95 | 215 => 178 | 216 => 145 | 257 => 121 | 294 => 139 | 295 => 140 | 296 => 141 | 297 => 142 | 298 => 143 | 299 => 144 | 300 => 146 | 301 => 147 | 328 => 173 | 329 => 174 | 330 => 175 | 331 => 176 | 332 => 177 | 343 => 186 | n => n, fun | 0 => 0 | 3 => 3 | 4 => 4 | 5 => 5 | 9 => 9 | 28 => 63 | 46 => 131 | 51 => 106 | 53 => 43 | 131 => 208 | 182 => 203 | 183 => 204 | 218 => 223 | 222 => 227 | 228 => 233 | 229 => 234 | n => n, fun n => n⟩
theorem sort_lays : Lays.n189 Tryz.prog sort_ren := {
  mixed := by kernel_rfl
  f125 := Tryz.func122.trans (congrArg some (by kernel_rfl))
  f128 := Tryz.func148.trans (congrArg some (by kernel_rfl))
  f129 := Tryz.func149.trans (congrArg some (by kernel_rfl))
  f189 := Tryz.func95.trans (congrArg some (by kernel_rfl))
  f215 := Tryz.func178.trans (congrArg some (by kernel_rfl))
  f216 := Tryz.func145.trans (congrArg some (by kernel_rfl))
  f257 := Tryz.func121.trans (congrArg some (by kernel_rfl))
  f294 := Tryz.func139.trans (congrArg some (by kernel_rfl))
  f295 := Tryz.func140.trans (congrArg some (by kernel_rfl))
  f296 := Tryz.func141.trans (congrArg some (by kernel_rfl))
  f297 := Tryz.func142.trans (congrArg some (by kernel_rfl))
  f298 := Tryz.func143.trans (congrArg some (by kernel_rfl))
  f299 := Tryz.func144.trans (congrArg some (by kernel_rfl))
  f300 := Tryz.func146.trans (congrArg some (by kernel_rfl))
  f301 := Tryz.func147.trans (congrArg some (by kernel_rfl))
  f328 := Tryz.func173.trans (congrArg some (by kernel_rfl))
  f329 := Tryz.func174.trans (congrArg some (by kernel_rfl))
  f330 := Tryz.func175.trans (congrArg some (by kernel_rfl))
  f331 := Tryz.func176.trans (congrArg some (by kernel_rfl))
  f332 := Tryz.func177.trans (congrArg some (by kernel_rfl))
  f343 := Tryz.func186.trans (congrArg some (by kernel_rfl))
  t0 := Tryz.underlying0
  a0 := Tryz.isAgg0
  z0 := Tryz.sizeOf0
  v0 := Tryz.zeroValue0
  t3 := Tryz.underlying3
  a3 := Tryz.isAgg3
  z3 := Tryz.sizeOf3
  v3 := Tryz.zeroValue3
  t4 := Tryz.underlying4
  a4 := Tryz.isAgg4
  z4 := Tryz.sizeOf4
  v4 := Tryz.zeroValue4
  t5 := Tryz.underlying5
  a5 := Tryz.isAgg5
  z5 := Tryz.sizeOf5
  v5 := Tryz.zeroValue5
  t9 := Tryz.underlying9
  a9 := Tryz.isAgg9
  z9 := Tryz.sizeOf9
  v9 := Tryz.zeroValue9
  t28 := Tryz.underlying63
  a28 := Tryz.isAgg63
  z28 := Tryz.sizeOf63
  v28 := Tryz.zeroValue63
  t46 := Tryz.underlying131
  a46 := Tryz.isAgg131
  z46 := Tryz.sizeOf131
  v46 := Tryz.zeroValue131
  t51 := Tryz.underlying106
  a51 := Tryz.isAgg106
  z51 := Tryz.sizeOf106
  v51 := Tryz.zeroValue106
  t53 := Tryz.underlying43
  a53 := Tryz.isAgg43
  z53 := Tryz.sizeOf43
  v53 := Tryz.zeroValue43
  t131 := Tryz.underlying208
  a131 := Tryz.isAgg208
  z131 := Tryz.sizeOf208
  v131 := Tryz.zeroValue208
  t182 := Tryz.underlying203
  a182 := Tryz.isAgg203
  z182 := Tryz.sizeOf203
  v182 := Tryz.zeroValue203
  t183 := Tryz.underlying204
  a183 := Tryz.isAgg204
  z183 := Tryz.sizeOf204
  v183 := Tryz.zeroValue204
  t218 := Tryz.underlying223
  a218 := Tryz.isAgg223
  z218 := Tryz.sizeOf223
  v218 := Tryz.zeroValue223
  t222 := Tryz.underlying227
  a222 := Tryz.isAgg227
  z222 := Tryz.sizeOf227
  v222 := Tryz.zeroValue227
  t228 := Tryz.underlying233
  a228 := Tryz.isAgg233
  z228 := Tryz.sizeOf233
  v228 := Tryz.zeroValue233
  t229 := Tryz.underlying234
  a229 := Tryz.isAgg234
  z229 := Tryz.sizeOf234
  v229 := Tryz.zeroValue234 }
theorem sort_ints (blk off cap : Nat) (zs : List Int) (w : World) (hH : Holds (Value.int .i64) w blk off zs.toArray) (hblk : blk < w.heap.size) (hsz : zs.length < 4611686018427387904) :
    Calls Tryz.prog 95 #[.slice (some ⟨blk, off, none⟩) zs.length cap] w fun e w' =>
      e = .returned (.tuple #[]) ∧ ∃ n os, w' = grow (putRow (Value.int .i64) (Sort.ahead w n) blk off (zs.mergeSort fun x y => decide (x ≤ y)).toArray) os :=
  Any.slices_Sort_int sort_lays blk off cap zs w hH hblk hsz
theorem bits_len (x : Int) (w : World) (h0 : 0 ≤ x) (h1 : x ≤ 18446744073709551615) : Calls Tryz.prog 122 #[.int .u64 x] w fun e w' => e = .returned (.int .i64 (Lib.bitLen x.toNat)) ∧ w' = w :=
  Go.calls_of_every_depth fun D => AnyS.bits_LenIn { sort_lays with } D x w h0 h1
end Go.Proofs.YtfchinibjhcejaaGreatDoor
namespace Go.Proofs.YtfchinibjhcejaaGreatDoor
open Go Go.Wk
abbrev irow (e : Nat) (v : Value) (l : List Int) : Res := rowR v e 1 l.length (l.map (Value.int .i64))
theorem At.rowNilI {Γ : Ctx} {E : Env} {H : List Res} (e : Nat) {φ : Act → World → Prop} (k : At Γ E (irow e (.slice none 0 0) [] :: H) φ) : At Γ E H φ := At.rowNil e 1 k
theorem At.appendI1 {P : Program} {Γ : Ctx} {E : Env} {H : List Res} {ops : Array Oper} {Q : Exit → Act → World → Prop} {rest : List Oper} {d : Nat} {ty : TypeId} {pos : String} {after : Array Edge} {x y : Operand} {v : Value} {i j t e by_ b U : Nat} {ti : TypeInfo} {z : Value} {l : List Int} {c : Int} (ht : P.underlying t = some (.slice e)) (hti : P.info? e = some ti) (hz : ti.zero = some z) (hsize : ti.size = 1) (hby : ti.bytes = by_) (hzs : z.cells.size = 1)
    (hx : ev E x = some v) (hy : ev E y = some (.slice (some ⟨b, 0, none⟩) 1 1)) (hi : H[i]? = some (irow e v l)) (hj : H[j]? = some (blk b U [.int .i64 c])) (h63 : (l.length + 1) * by_ ≤ 140737488355328) (h64 : l.length + 1 ≤ 140737488355328) (hn : Nat.blt d Γ.n = true)
    (k : ∀ v', At Γ ((d, v') :: E) (H.set i (irow e v' (l ++ [c]))) (wpList P ops Q rest)) :
    At Γ E H (wpList P ops Q ({ dst := some d, op := .call { callee := .builtin .append, args := #[x, y], argTypes := #[t, t] }, type := ty, pos, after, guard := none } :: rest)) :=
  At.append (i := i) (ys := [.int .i64 c]) ht hti hz hsize hby hzs rfl hx hy hi rfl (fun w hw j' u hj' => by rw [Nat.zero_add]; exact ((hw.blk hj).cell j').trans hj') (by simp [Value.oneCell']) h63 h64 hn fun v' => by
    have := k v'
    simpa only [irow, List.map_append, List.map_cons, List.map_nil, List.length_append, List.length_cons, List.length_nil, Nat.zero_add] using this
def inDoubt (w : Wd) : Bool := !w.news.isEmpty
def dk (ws : List Wd) : List Nat := (List.range ws.length).filter fun k => match ws[k]? with | some w => inDoubt w | none => false
def dkeys (ws : List Wd) : List Int := (dk ws).map fun (k : Nat) => 8 * (k : Int)
theorem mem_dk {ws : List Wd} {k : Nat} : k ∈ dk ws ↔ ∃ w, ws[k]? = some w ∧ w.news ≠ [] := by
  unfold dk
  rw [List.mem_filter, List.mem_range]
  constructor
  · rintro ⟨h1, h2⟩
    cases hk : ws[k]? with
    | none => rw [hk] at h2; cases h2
    | some w => rw [hk] at h2; exact ⟨w, rfl, by intro e; simp [inDoubt, e] at h2⟩
  · rintro ⟨w, h1, h2⟩
    refine ⟨(List.getElem?_eq_some_iff.1 h1).1, ?_⟩
    rw [h1]
    cases h : w.news with
    | nil => exact absurd h h2
    | cons a l => simp [inDoubt, h]
theorem dk_rising (ws : List Wd) : (dk ws).Pairwise (· < ·) := List.pairwise_lt_range.filter _
theorem dkeys_rising (ws : List Wd) : (dkeys ws).Pairwise (· < ·) := by
  unfold dkeys
  rw [List.pairwise_map]
  exact (dk_rising ws).imp fun h => by omega
theorem mem_dkeys {ws : List Wd} {g : Nat → Nat × Value} {x : Int} : x ∈ dkeys ws ↔ (mk ws g x).isSome = true := by
  unfold dkeys
  rw [List.mem_map]
  constructor
  · rintro ⟨k, hk, rfl⟩
    obtain ⟨w, h1, h2⟩ := mem_dk.1 hk
    rw [mk_at, mkN_some h1 h2]; rfl
  · intro h
    obtain ⟨v, hv⟩ := Option.isSome_iff_exists.1 h
    obtain ⟨k, w, rfl, h1, h2, _⟩ := mk_inv hv
    exact ⟨k, mem_dk.2 ⟨w, h1, h2⟩, rfl⟩
theorem rising_eq : ∀ {a b : List Int}, a.Pairwise (· < ·) → b.Pairwise (· < ·) → (∀ x, x ∈ a ↔ x ∈ b) → a = b
  | [], [], _, _, _ => rfl
  | [], y :: b, _, _, h => by have := (h y).2 (by simp); cases this
  | x :: a, [], _, _, h => by have := (h x).1 (by simp); cases this
  | x :: a, y :: b, ha, hb, h => by
    have ha' := List.pairwise_cons.1 ha
    have hb' := List.pairwise_cons.1 hb
    have hxy : x = y := by
      rcases List.mem_cons.1 ((h x).1 (by simp)) with e | e
      · exact e
      · rcases List.mem_cons.1 ((h y).2 (by simp)) with e' | e'
        · exact e'.symm
        · have := hb'.1 x e; have := ha'.1 y e'; omega
    subst hxy
    congr 1
    refine rising_eq ha'.2 hb'.2 fun z => ?_
    have hz := h z
    simp only [List.mem_cons] at hz
    constructor
    · intro hm
      have := ha'.1 z hm
      rcases hz.1 (.inr hm) with e | e
      · omega
      · exact e
    · intro hm
      have := hb'.1 z hm
      rcases hz.2 (.inr hm) with e | e
      · omega
      · exact e
theorem rising_len : ∀ {l : List Int} {a n : Nat}, l.Pairwise (· < ·) → (∀ x ∈ l, ∃ i : Nat, x = 8 * (i : Int) ∧ a ≤ i ∧ i < n) → l ≠ [] → l.length + a ≤ n
  | [], _, _, _, _, h => absurd rfl h
  | [x], a, n, _, h, _ => by obtain ⟨i, _, h1, h2⟩ := h x (by simp); simp; omega
  | x :: y :: l, a, n, hp, h, _ => by
    obtain ⟨i, rfl, h1, h2⟩ := h x (by simp)
    have hp' := List.pairwise_cons.1 hp
    have := rising_len (l := y :: l) (a := i + 1) (n := n) hp'.2 (fun z hz => by
      obtain ⟨q, rfl, h3, h4⟩ := h z (List.mem_cons_of_mem _ hz)
      have := hp'.1 _ hz
      exact ⟨q, rfl, by omega, h4⟩) (by simp)
    simp only [List.length_cons] at this ⊢
    omega
theorem sorted_rising {l : List Int} (hn : l.Nodup) : (l.mergeSort fun x y => decide (x ≤ y)).Pairwise (· < ·) := by
  have h1 := List.pairwise_mergeSort (le := fun (x y : Int) => decide (x ≤ y)) (fun a b c h1 h2 => by simp at *; omega) (fun a b => by simp; omega) l
  have h2 : (l.mergeSort fun x y => decide (x ≤ y)).Nodup := (List.mergeSort_perm l _).nodup_iff.2 hn
  exact (h1.and h2).imp fun ⟨h3, h4⟩ => by simp at h3; omega
def Coll (ws : List Wd) (g : Nat → Nat × Value) (left : Int → Bool) (l : List Int) : Prop := l.Nodup ∧ ∀ x, x ∈ l ↔ ((mk ws g x).isSome = true ∧ left x = false)
theorem coll_start (ws : List Wd) (g : Nat → Nat × Value) : Coll ws g (fun k => (mk ws g k).isSome) [] := ⟨by simp, fun x => ⟨fun h => (by cases h), fun ⟨h1, h2⟩ => absurd (show (mk ws g x).isSome = false from h2) (by rw [h1]; simp)⟩⟩
theorem coll_step {ws : List Wd} {g : Nat → Nat × Value} {left : Int → Bool} {l : List Int} {x : Int} {v : Value} (h : Coll ws g left l) (hl : left x = true) (hf : mk ws g x = some v) : Coll ws g (fun q => left q && q != x) (l ++ [x]) := by
  have hx : x ∉ l := fun hm => by have := ((h.2 x).1 hm).2; rw [hl] at this; cases this
  refine ⟨List.nodup_append.2 ⟨h.1, by simp, fun a ha b hb => by rw [List.mem_singleton.1 hb]; intro e; exact hx (e ▸ ha)⟩, fun q => ?_⟩
  rw [List.mem_append, List.mem_singleton, h.2 q]
  constructor
  · rintro (⟨h1, h2⟩ | rfl)
    · exact ⟨h1, by show (left q && q != x) = false; rw [h2]; rfl⟩
    · exact ⟨by rw [hf]; rfl, by simp⟩
  · rintro ⟨h1, h2⟩
    by_cases e : q = x
    · exact .inr e
    · refine .inl ⟨h1, ?_⟩
      have : (q != x) = true := by simpa using e
      have h2 : (left q && q != x) = false := h2
      rw [this, Bool.and_true] at h2; exact h2
theorem coll_len {ws : List Wd} {g : Nat → Nat × Value} {left : Int → Bool} {l : List Int} (h : Coll ws g left l) : l.length ≤ ws.length := by
  by_cases e : l = []
  · subst e; simp
  · have hr := sorted_rising h.1
    have := rising_len (a := 0) (n := ws.length) hr (fun x hx => by
      have hx' := ((h.2 x).1 ((List.mergeSort_perm l _).mem_iff.1 hx)).1
      obtain ⟨v, hv⟩ := Option.isSome_iff_exists.1 hx'
      obtain ⟨k, w, rfl, h1, _, _⟩ := mk_inv hv
      exact ⟨k, rfl, Nat.zero_le _, (List.getElem?_eq_some_iff.1 h1).1⟩) (fun h0 => e (by have := congrArg List.length h0; rw [List.length_mergeSort] at this; exact List.eq_nil_of_length_eq_zero this))
    rw [List.length_mergeSort] at this
    omega
theorem coll_end {ws : List Wd} {g : Nat → Nat × Value} {left : Int → Bool} {l : List Int} (h : Coll ws g left l) (hl : ∀ k, left k = false) : l.mergeSort (fun x y => decide (x ≤ y)) = dkeys ws :=
  rising_eq (sorted_rising h.1) (dkeys_rising ws) fun x => by
    rw [(List.mergeSort_perm l _).mem_iff, h.2 x, hl x, mem_dkeys (g := g)]
    simp
theorem ins_nil (w : World) :
    PureC Tryz.prog 139 [.slice none 0 0, .int .i64 0, .int .i64 0] (.tuple #[]) w := by
 refine enter0 Tryz.func139 rfl Tryz.ntmps139 rfl ?_
 simp only [envOf]
 refine tR (tM rfl rfl ?_)
 first | refine tV (Val.addI rfl rfl (by omega) (by omega)) rfl ?_ | refine tV (Val.bin rfl rfl rfl) rfl ?_
 refine tA rfl rfl (tE (At.block ?_))
 skip
 refine At.loop (σ := Unit) (fun u => True) (fun u => [(2, .int .i64 0), (6, .int .i64 1)]) (fun u => []) (fun u => 0) () trivial (Sub.cons rfl (Sub.cons rfl Sub.nil)) (List.Perm.refl _) ?_
 intro u hs
 refine At.seq (tR (tM rfl rfl (tM rfl rfl (tV (Val.bin rfl rfl rfl) rfl (tE ?_)))))
 refine At.cond rfl (fun h1 => ?_) (fun h1 => ?_)
 ·try simp only [hasB, isSizeB, sB] at h1
  omega
 ·try simp only [hasB, isSizeB, sB] at h1
  refine At.exitC (At.thenX (At.thenX (At.blkX (At.ret0 (.inr rfl) rfl rfl  (fun w hw => ?_)))))
  exact ⟨rfl, hw.mod⟩
theorem pdq_nil (k : Int) (w : World) :
    PureC Tryz.prog 121 [.slice none 0 0, .int .i64 0, .int .i64 0, .int .i64 k] (.tuple #[]) w := by
 refine enter0 Tryz.func121 rfl Tryz.ntmps121 rfl ?_
 simp only [envOf]
 refine tR (tA rfl rfl (tE (tR (tA rfl rfl (tE (At.block ?_))))))
 skip
 refine At.loop (σ := Unit) (fun u => True) (fun u => [(0, .slice none 0 0), (1, .int .i64 0), (2, .int .i64 0)]) (fun u => []) (fun u => 0) () trivial (Sub.cons rfl (Sub.cons rfl (Sub.cons rfl Sub.nil))) (List.Perm.refl _) ?_
 intro u hs
 refine At.block (tR (tM rfl rfl (tM rfl rfl ?_)))
 first | refine tV (Val.subI rfl rfl (by omega) (by omega)) rfl ?_ | refine tV (Val.bin rfl rfl rfl) rfl ?_
 refine tA rfl rfl (tE (At.seq (tR (tM rfl rfl (tV (Val.bin rfl rfl rfl) rfl (tE ?_))))))
 refine At.cond rfl (fun h1 => ?_) (fun h1 => ?_)
 ·try simp only [hasB, isSizeB, sB] at h1
  refine tR (tM rfl rfl (tM rfl rfl (tM rfl rfl (At.callP (fun w hw => ins_nil w) Tryz.call139 rfl rfl (tE (At.retC (At.thenR (At.blkR (At.thenR (At.blkR (At.ret0 (.inl rfl) rfl rfl  (fun w hw => ?_))))))))))))
  exact ⟨rfl, hw.mod⟩
 ·try simp only [hasB, isSizeB, sB] at h1
  omega
theorem sort_nil (w : World) :
    PureC Tryz.prog 95 [.slice none 0 0] (.tuple #[]) w := by
 refine enter0 Tryz.func95 rfl Tryz.ntmps95 rfl ?_
 simp only [envOf]
 refine tR (tM rfl rfl (tV (Val.len (bt := #[]) Tryz.underlying63 rfl) rfl (tA rfl rfl (tE (At.region (tM rfl rfl (tM rfl rfl (tM rfl rfl (tV (Val.conv (P := Tryz.prog) (s := 3) (t := 131) Tryz.underlying3 Tryz.underlying131 rfl) rfl ?_)))))))))
 rw [show IntKind.u64.wrap ((0 : Nat) : Int) = 0 from rfl]
 refine At.callP (fun w hw => (bits_len 0 w (by omega) (by omega)).mono fun e w' ⟨h1, h2⟩ => ⟨h1, by subst h2; exact Mod.refl _ _⟩) Tryz.call122 rfl rfl (At.callP (fun w hw => pdq_nil _ w) Tryz.call121 rfl rfl (At.nil (At.ret0 (.inr rfl) rfl rfl  (fun w hw => ?_))))
 exact ⟨rfl, hw.mod⟩
theorem sort_u (v : Value) (l : List Int) (w : World) (h : (irow 3 v l).holds w) (hl : l.length < 4611686018427387904) : Upd Tryz.prog 95 [v] (irow 3 v l) (.tuple #[]) (irow 3 v (l.mergeSort fun x y => decide (x ≤ y))) w := by
  have hm : ∀ w', Mod (fun _ => False) w w' → Rep w (feet [irow 3 v l]) [irow 3 v l] w' := fun w' hm' => (Rep.one h).garbage hm'
  have h0 : w.ownsRow 0 3 1 v l.length (l.map (Value.int .i64)) := h
  rcases h0.2 with ⟨rfl, hn⟩ | ⟨g, cap, cur, rfl, hbase, hb, h1, h2, h3, h4⟩
  · have : l = [] := List.eq_nil_of_length_eq_zero hn
    subst this
    exact (sort_nil w).mono fun e w' ⟨he, hmod⟩ => ⟨he, by rw [List.mergeSort_nil]; exact hm w' hmod⟩
  · refine (sort_ints g 0 cap l w (holds_of_blockI hb (by simpa using h4)) (Array.getElem?_eq_some_iff.1 hb).1 hl).mono ?_
    rintro e w' ⟨rfl, n, os, rfl⟩
    refine ⟨rfl, ?_⟩
    have hg := grownBy_sortedI (w := w) (g := g) (n := n) (os := os) (l.mergeSort fun x y => decide (x ≤ y)).toArray
    have ho := ownsRow_sortedI (w := w) (base := 0) (n := n) (os := os) (ts := l.mergeSort fun x y => decide (x ≤ y)) (by simp) hbase hb h1 h2 h3
    exact Rep.change (i := 0) (r := irow 3 (.slice (some ⟨g, 0, none⟩) l.length cap) l) (r' := irow 3 (.slice (some ⟨g, 0, none⟩) l.length cap) (l.mergeSort fun x y => decide (x ≤ y))) rfl (Rep.one h) (grown_mod hg) (by
      show World.ownsRow _ 0 _ 1 _ _ _
      rw [List.length_mergeSort]; exact ho) (fun b hb => .inl hb)
theorem places_k (p : Nat) (γ : Gh) (σ : Ds) (w : World) (hd : (Dev p γ σ).holds w) :
    RowK Tryz.prog 57 [.pointer (some ⟨p, 0, none⟩)] (Dev p γ σ) 3 1 (dkeys σ.ws).length ((dkeys σ.ws).map (Value.int .i64)) w := by
 refine enterV hd Tryz.func57 rfl Tryz.ntmps57 rfl ?_
 unfold devL
 have hgd := Dev.good hd
 have hln := hgd.len
 simp only [envOf]
 refine tR (tA rfl rfl (tE (tR (tA rfl rfl (tE (At.seq (At.seq (At.rowNilI 3 (At.region (tM rfl rfl (tV (Val.nilCheck rfl) rfl (tV (Val.field 1 rfl fo_111_1 rfl) rfl (tV (Val.load (i := 1) Tryz.isAgg109 rfl rfl rfl) rfl (At.range (i := 3) Tryz.underlying109 rfl rfl rfl (fun r1 cnt2 => ?_)))))))))))))))
 simp only [sc0, scS]
 refine tE (At.block ?_)
 skip
 refine At.loop (σ := (Int → Bool) × Option (Int × Value) × Nat × List Int × Value) (fun s => Coll σ.ws γ.g s.1 s.2.2.2.1) (fun s => [(0, .pointer (some ⟨p, 0, none⟩)), (3, s.2.2.2.2), (9, .pointer (some ⟨r1, 0, none⟩))]) (fun s => [irow 3 s.2.2.2.2 s.2.2.2.1, blk p tDv [γ.vo, .map (some γ.mb), .int .i64 (σ.steps : Int), .bool σ.armed, .int .i64 (σ.left : Int)], wrow tW γ.vo (olds σ.ws), iterR γ.mb r1 (mk σ.ws γ.g) s.1 s.2.1 s.2.2.1, fam (dI σ.ws γ.g), factR (Dgood σ)]) (fun s => s.2.2.1) ((fun k => (mk σ.ws γ.g k).isSome), none, cnt2, [], .slice none 0 0) (coll_start _ _) (Sub.cons rfl (Sub.cons rfl (Sub.cons rfl Sub.nil))) (List.Perm.refl _) ?_
 intro s hs
 obtain ⟨left, cur, cnt, l, vl⟩ := s
 dsimp only at hs ⊢
 have hcl := coll_len hs
 refine tR ?_
 refine At.next (i := 3) rfl rfl rfl (fun hl => ?_) (fun x v cn hl hf hcn => ?_)
 skip
 ·refine tV (Val.extract rfl rfl) rfl (tE (At.seq (At.condF rfl (At.exitC (At.thenX (At.thenX (At.blkX (At.thenN (At.seq (At.iterEnd 3 rfl ?_))))))))))
  simp only [sc0, scS]
  refine At.region (tM rfl rfl (At.call1 0 rfl (fun w hw hr => sort_u _ _ w hr (by omega)) Tryz.call95 rfl rfl ?_))
  simp only [sc0, scS]
  refine tE (tR (tM rfl rfl (tA rfl rfl (tE (At.retC (At.ret1 (.inl rfl) rfl rfl rfl (fun w hw => ?_)))))))
  rw [coll_end hs hl] at hw
  exact ⟨_, rfl, retRK (F := []) hw⟩
 ·simp only [sc0, scS]
  refine tV (Val.extract rfl rfl) rfl (tE (At.seq (At.condT rfl (At.skipC (At.thenN (At.block (tR (tV (Val.entry (i := 3) rfl rfl) rfl (tV (Val.extract rfl rfl) rfl (tA rfl rfl (tE (At.region (tM rfl rfl (tM rfl rfl (At.buildSl (fun a ha => by simp only [List.map_toArray, List.map_cons, List.map_nil, ha.eval (x := (.tmp 15)) rfl]; try rfl) (bs_63_1 _ ) rfl (fun b3 => (At.appendI1 (i := 1) (j := 0) (by_ := 8) Tryz.underlying63 info_3 rfl rfl rfl rfl rfl rfl rfl rfl (by omega) (by omega) rfl (fun v4 => ?_))))))))))))))))))
  simp only [sc0, scS]
  refine At.drop 0 ?_
  simp only [ec0, ecS]
  refine tA rfl rfl (At.nil (At.blkN (At.thenN ?_)))
  exact At.again ((fun q => left q && q != x), some (x, v), cn, l ++ [x], v4) (coll_step hs hl hf) (show cn < cnt by omega) (Sub.cons rfl (Sub.cons rfl (Sub.cons rfl Sub.nil))) (List.Perm.refl _)
end Go.Proofs.YtfchinibjhcejaaGreatDoor
namespace Go.Proofs.YtfchinibjhcejaaGreatDoor
open Go Go.Wk
def pickC (cs : List Int) (K : Nat) (w : Wd) : BitVec 64 :=
  let n : Int := (w.news.length : Int) + 1
  let c : Int := match cs[K]? with | some c => (if c.tmod n < 0 then c.tmod n + n else c.tmod n) | none => 0
  if c = 0 then w.old else (w.news[(c - 1).toNat]?).getD w.old
def pickK (ws : List Wd) (pk : Nat → Nat → BitVec 64) : Nat → List (BitVec 64)
  | 0 => olds ws
  | K + 1 => match (dk ws)[K]? with | some k => (pickK ws pk K).set k (pk K k) | none => pickK ws pk K
def picked (ws : List Wd) (pk : Nat → Nat → BitVec 64) : List (BitVec 64) := pickK ws pk (dk ws).length
theorem pickK_length (ws : List Wd) (pk : Nat → Nat → BitVec 64) : ∀ K, (pickK ws pk K).length = ws.length
  | 0 => olds_length ws
  | K + 1 => by unfold pickK; split <;> simp [pickK_length ws pk K]
theorem pickK_succ {ws : List Wd} {pk : Nat → Nat → BitVec 64} {K k : Nat} (h : (dk ws)[K]? = some k) : pickK ws pk (K + 1) = (pickK ws pk K).set k (pk K k) := by
  conv => lhs; unfold pickK
  rw [h]
def pkC (ws : List Wd) (cs : List Int) (K k : Nat) : BitVec 64 := match ws[k]? with | some w => pickC cs K w | none => 0
def pkV (ws : List Wd) (K k : Nat) : BitVec 64 := match ws[k]? with | some w => nowW w | none => 0
theorem pkC_at {ws : List Wd} {cs : List Int} {K k : Nat} {w : Wd} (h : ws[k]? = some w) : pkC ws cs K k = pickC cs K w := by unfold pkC; rw [h]
theorem pkV_at {ws : List Wd} {K k : Nat} {w : Wd} (h : ws[k]? = some w) : pkV ws K k = nowW w := by unfold pkV; rw [h]
theorem pick_old {cs : List Int} {K : Nat} {w : Wd} {c : Int} (hc : c = 0) (h : c = (match cs[K]? with | some c => (if c.tmod ((w.news.length : Int) + 1) < 0 then c.tmod ((w.news.length : Int) + 1) + ((w.news.length : Int) + 1) else c.tmod ((w.news.length : Int) + 1)) | none => 0)) : pickC cs K w = w.old := by
  unfold pickC; simp only; rw [← h, if_pos hc]
theorem pick_new {cs : List Int} {K : Nat} {w : Wd} {c : Int} {z : BitVec 64} (hc : c ≠ 0) (h : c = (match cs[K]? with | some c => (if c.tmod ((w.news.length : Int) + 1) < 0 then c.tmod ((w.news.length : Int) + 1) + ((w.news.length : Int) + 1) else c.tmod ((w.news.length : Int) + 1)) | none => 0)) (hz : w.news[(c - 1).toNat]? = some z) : pickC cs K w = z := by
  unfold pickC; simp only; rw [← h, if_neg hc, hz]; rfl
theorem viewCl_k (p : Nat) (γ : Gh) (σ : Ds) (k : Nat) (wd : Wd) (a b : Int) (w : World) (hk : σ.ws[k]? = some wd) (hn : wd.news ≠ []) (hd : (Dev p γ σ).holds w) :
    Upd Tryz.prog 54 [.int .i64 a, .int .i64 b, .pointer (some ⟨(γ.g k).1, 0, none⟩)] (Dev p γ σ) (b64 (nowW wd)) (Dev p γ σ) w := by
 refine enterV hd Tryz.func54 rfl Tryz.ntmps54 rfl ?_
 unfold devL
 have hgd := Dev.good hd
 have hst := hgd.steps
 have hwd := hgd.word wd (List.mem_of_getElem? hk)
 have hpos := List.length_pos_iff.2 hn
 simp only [envOf]
 refine tR (tA rfl rfl (tE (At.seq (At.dbtSome 3 rfl hk hn (fun b o c hv => (At.quiet rfl (by decide +kernel) (qM rfl rfl (qV (Val.nilCheck rfl) rfl (qV (Val.field 0 rfl fo_115_0 rfl) rfl (qV (Val.loadDbt (i := 3) Tryz.isAgg98 rfl rfl hk hn rfl) rfl (qM rfl rfl (qV (Val.nilCheck rfl) rfl (qV (Val.field 0 rfl fo_115_0 rfl) rfl (qV (Val.loadDbt (i := 3) Tryz.isAgg98 rfl rfl hk hn rfl) rfl (qV (Val.lenDbt (i := 3) rfl hk hn Tryz.underlying98 rfl) rfl (qV (Val.subI rfl rfl (by omega) (by omega)) rfl ?_))))))))))))))))
 rw [hv]
 refine qV (Val.indexSl (o + (wd.news.length - 1)) (by omega) Tryz.underlying98 Tryz.sizeOf43 rfl rfl (by omega) (by omega)) rfl (qV (Val.loadNews (i := 3) Tryz.isAgg43 rfl rfl hk hn hv rfl (now_last hn (y := nowW wd) rfl)) rfl (qV (Val.assign rfl) rfl (QAt.fin (At.thenN (At.retC (At.ret1 (.inl rfl) rfl rfl rfl (fun w hw => ?_)))))))
 exact ⟨rfl, retK (F := []) hw⟩
end Go.Proofs.YtfchinibjhcejaaGreatDoor
namespace Go.Proofs.YtfchinibjhcejaaGreatDoor
open Go Go.Wk
theorem bytes_k (p : Nat) (γ : Gh) (σ : Ds) (fid : FuncId) (caps : List Value) (pk : Nat → Nat → BitVec 64) (w : World) (hcall : ∀ args w, (callFunc fid args).run Tryz.prog w = .ok (.enter fid args) w) (hp : ∀ w', Mod (feet [Dev p γ σ]) w w' → (Dev p γ σ).holds w' → ∀ (K k : Nat) (wd : Wd), (dk σ.ws)[K]? = some k → σ.ws[k]? = some wd → wd.news ≠ [] → Upd Tryz.prog fid ([.int .i64 (K : Int), .int .i64 (8 * (k : Int)), .pointer (some ⟨(γ.g k).1, 0, none⟩)] ++ caps) (Dev p γ σ) (b64 (pk K k)) (Dev p γ σ) w') (hd : (Dev p γ σ).holds w) :
    RowK Tryz.prog 53 [.pointer (some ⟨p, 0, none⟩), .func (.func fid) #[] caps.toArray] (Dev p γ σ) 5 1 (wbytes (picked σ.ws pk)).length ((wbytes (picked σ.ws pk)).map bv) w := by
 refine enterV hd Tryz.func53 rfl Tryz.ntmps53 rfl ?_
 unfold devL
 have hgd := Dev.good hd
 have hln := hgd.len
 have hps := hgd.pos
 have hdl : (dk σ.ws).length ≤ σ.ws.length := Nat.le_trans (List.length_filter_le _ _) (by rw [List.length_range]; exact Nat.le_refl _)
 simp only [envOf]
 refine tR (tA rfl rfl (tE (tR (tM rfl rfl (At.callKS (devL p γ σ) rfl (fun w hw hr => size_k _ _ _ w hr) Tryz.call81 rfl rfl ?_)))))
 rw [show 8 * (σ.ws.length : Int) = (((8 * σ.ws.length : Nat)) : Int) from by omega]
 refine At.makeRowB (n := (8 * σ.ws.length)) Tryz.underlying29 info_5 rfl rfl rfl rfl rfl (by omega) rfl (fun v1 => ?_)
 rw [← wbytes_zero]
 refine At.rowSome (i := 0) rfl (by rw [wbytes_length, List.length_replicate]; omega) (fun b2 c3 hv4 => ?_)
 subst hv4
 refine At.rowCapD (i := 0) rfl (fun hcap => ?_)
 rw [wbytes_length, List.length_replicate] at hcap ⊢
 refine At.sink5 (tA rfl rfl (tE (At.seq (tR (tM rfl rfl (tV (Val.nilCheck rfl) rfl (tV (Val.field 0 rfl fo_111_0 rfl) rfl (tV (Val.load (i := 0) Tryz.isAgg98 rfl rfl rfl) rfl (tV (Val.lenRow (i := 1) Tryz.underlying98 rfl rfl) rfl (tM rfl rfl (tE (At.block ?_))))))))))))
 skip
 refine At.loop (σ := Nat) (fun k => k ≤ σ.ws.length) (fun k => [(0, .pointer (some ⟨p, 0, none⟩)), (1, .func (.func fid) #[] caps.toArray), (5, (.slice (some ⟨b2, 0, none⟩) ((8 * σ.ws.length)) c3)), (16, γ.vo), (17, .int .i64 (σ.ws.length : Int)), (18, .int .i64 (k : Int))]) (fun k => [blk p tDv [γ.vo, .map (some γ.mb), .int .i64 (σ.steps : Int), .bool σ.armed, .int .i64 (σ.left : Int)], wrow tW γ.vo (olds σ.ws), mapR γ.mb (mk σ.ws γ.g), fam (dI σ.ws γ.g), factR (Dgood σ), brow 5 (.slice (some ⟨b2, 0, none⟩) ((8 * σ.ws.length)) c3) (wbytes ((olds σ.ws).take k ++ List.replicate ((olds σ.ws).length - k) 0))]) (fun k => σ.ws.length - k) 0 (Nat.zero_le _) (Sub.cons rfl (Sub.cons rfl (Sub.cons rfl (Sub.cons rfl (Sub.cons (congrArg (fun z => some (Value.int IntKind.i64 z)) (by rw [olds_length])) (Sub.cons rfl Sub.nil)))))) (by rw [List.take_zero, List.nil_append, Nat.sub_zero, olds_length, brow, wbytes_length, List.length_replicate]) ?_
 intro k hs
 have hl1 : ((olds σ.ws).take k ++ List.replicate ((olds σ.ws).length - k) 0).length = σ.ws.length := by rw [List.length_append, List.length_take, List.length_replicate, olds_length]; omega
 refine tR (tV (Val.bin rfl rfl rfl) rfl (tE (At.seq ?_)))
 refine At.cond rfl (fun h5 => ?_) (fun h5 => ?_)
 ·try simp only [hasB, isSizeB, sB] at h5
  have hk0 : k < σ.ws.length := by omega
  obtain ⟨wd, hk⟩ : ∃ wd, σ.ws[k]? = some wd := ⟨_, List.getElem?_eq_getElem hk0⟩
  refine At.skipC (At.thenN (At.seq (At.block (tR (tM rfl rfl ?_)))))
  refine tV (Val.indexRow (i := 1) k (by omega) Tryz.underlying98 Tryz.sizeOf43 rfl rfl rfl (by omega) (by rw [olds_length]; omega)) rfl ?_
  refine tV (Val.loadRow (i := 1) Tryz.isAgg43 rfl rfl (by rw [List.getElem?_map, olds_at hk]; rfl)) rfl ?_
  refine tA rfl rfl (tA rfl rfl (tE (At.region (tM rfl rfl (tM rfl rfl (tV (Val.mulI rfl rfl (by omega) (by omega)) rfl (tV (Val.cutSl (8 * k) (8 * σ.ws.length) (8 * k) (8 * σ.ws.length - 8 * k) (c3 - 8 * k) Tryz.underlying29 Tryz.sizeOf5 rfl ⟨_, _, rfl, by omega, by omega⟩ rfl (by omega) hcap (by rw [if_neg (by omega)]; omega) rfl rfl) rfl (tM rfl rfl ?_))))))))
  refine At.call1 5 rfl (fun w hw hr => putW_r b2 (8 * k) (8 * σ.ws.length - 8 * k) (c3 - 8 * k) (8 * σ.ws.length) c3 (wbytes ((olds σ.ws).take k ++ List.replicate ((olds σ.ws).length - k) 0)) (wd.old) w (by omega) (by rw [wbytes_length, hl1]; omega) hr) Tryz.call94 rfl rfl ?_
  simp only [sc0, scS]
  refine At.nil (At.blkN (At.thenN (At.region ?_)))
  first | refine tV (Val.addI rfl rfl (by omega) (by omega)) rfl ?_ | refine tV (Val.bin rfl rfl rfl) rfl ?_
  refine tM rfl rfl (tE ?_)
  exact At.again (k + 1) (show k + 1 ≤ _ by omega) (by omega) (Sub.cons rfl (Sub.cons rfl (Sub.cons rfl (Sub.cons rfl (Sub.cons rfl (Sub.cons (congrArg (fun z => some (Value.int IntKind.i64 z)) (by omega)) Sub.nil)))))) (by rw [put8_set _ (by omega), take_set_zero (olds_at hk)])
 ·try simp only [hasB, isSizeB, sB] at h5
  obtain rfl : k = σ.ws.length := by omega
  refine At.exitC (At.thenX (At.thenX (At.blkX (At.thenN (At.seq (tR (tM rfl rfl (At.callRKS (devL p γ σ) rfl (fun w hw hr => places_k p γ σ w hr) Tryz.call57 rfl rfl (fun v6 => (At.sink5 (tV (Val.lenRow (i := 5) Tryz.underlying63 rfl rfl) rfl (tM rfl rfl (tE (At.block ?_))))))))))))))
  skip
  refine At.loop (σ := Nat) (fun K => K ≤ (dk σ.ws).length) (fun K => [(0, .pointer (some ⟨p, 0, none⟩)), (1, .func (.func fid) #[] caps.toArray), (5, (.slice (some ⟨b2, 0, none⟩) ((8 * σ.ws.length)) c3)), (31, v6), (32, .int .i64 ((dk σ.ws).length : Int)), (33, .int .i64 (K : Int))]) (fun K => [blk p tDv [γ.vo, .map (some γ.mb), .int .i64 (σ.steps : Int), .bool σ.armed, .int .i64 (σ.left : Int)], wrow tW γ.vo (olds σ.ws), mapR γ.mb (mk σ.ws γ.g), fam (dI σ.ws γ.g), factR (Dgood σ), rowR v6 3 1 (dkeys σ.ws).length ((dkeys σ.ws).map (Value.int .i64)), brow 5 (.slice (some ⟨b2, 0, none⟩) ((8 * σ.ws.length)) c3) (wbytes (pickK σ.ws pk K))]) (fun K => (dk σ.ws).length - K) 0 (Nat.zero_le _) (Sub.cons rfl (Sub.cons rfl (Sub.cons rfl (Sub.cons rfl (Sub.cons (congrArg (fun z => some (Value.int IntKind.i64 z)) (by rw [dkeys, List.length_map])) (Sub.cons rfl Sub.nil)))))) (by rw [List.take_of_length_le (by rw [olds_length]; exact Nat.le_refl _), olds_length, Nat.sub_self, List.replicate_zero, List.append_nil]; exact List.Perm.refl _) ?_
  intro K hs
  refine tR (tV (Val.bin rfl rfl rfl) rfl (tE (At.seq ?_)))
  refine At.cond rfl (fun h7 => ?_) (fun h7 => ?_)
  ·try simp only [hasB, isSizeB, sB] at h7
   have hK : K < (dk σ.ws).length := by omega
   obtain ⟨k, hkK⟩ : ∃ k, (dk σ.ws)[K]? = some k := ⟨_, List.getElem?_eq_getElem hK⟩
   obtain ⟨wd, hk, hn⟩ := mem_dk.1 (List.mem_of_getElem? hkK)
   have hk0 := (List.getElem?_eq_some_iff.1 hk).1
   refine At.skipC (At.thenN (At.seq (At.block (tR (tM rfl rfl ?_)))))
   refine tV (Val.indexRow (i := 5) K (by omega) Tryz.underlying63 Tryz.sizeOf3 rfl rfl rfl (by omega) (by rw [dkeys, List.length_map]; omega)) rfl ?_
   refine tV (Val.loadRow (i := 5) (u := .int .i64 (8 * (k : Int))) Tryz.isAgg3 rfl rfl (by rw [List.getElem?_map, dkeys, List.getElem?_map, hkK]; rfl)) rfl ?_
   refine tA rfl rfl (tA rfl rfl (tE (At.tail 13 rfl (by decide +kernel) ?_)))
   simp only [List.take_succ_cons, List.take_zero, List.drop_succ_cons, List.drop_zero]
   refine qM rfl rfl (qM rfl rfl (qV (Val.cutSl (8 * k) (8 * σ.ws.length) (8 * k) (8 * σ.ws.length - 8 * k) (c3 - 8 * k) Tryz.underlying29 Tryz.sizeOf5 rfl ⟨_, _, rfl, by omega, by omega⟩ rfl (by omega) hcap (by rw [if_neg (by omega)]; omega) rfl rfl) rfl (qM rfl rfl (qM rfl rfl (qM rfl rfl (qM rfl rfl (qV (Val.nilCheck rfl) rfl (qV (Val.field 1 rfl fo_111_1 rfl) rfl (qV (Val.load (i := 0) Tryz.isAgg109 rfl rfl rfl) rfl (qM rfl rfl (qV (Val.look (i := 2) Tryz.underlying109 Tryz.underlying3 Tryz.zeroValue113 rfl rfl rfl) rfl ?_)))))))))))
   rw [mk_at, mkN_some hk hn]
   refine QAt.callVKS (devL p γ σ) (caps := caps) rfl rfl (fun w hw hr => hp w hw.mod hr K k wd hkK hk hn) hcall rfl rfl (QAt.fin ?_)
   refine At.call1 6 rfl (fun w hw hr => putW_r b2 (8 * k) (8 * σ.ws.length - 8 * k) (c3 - 8 * k) (8 * σ.ws.length) c3 (wbytes (pickK σ.ws pk K)) (pk K k) w (by omega) (by rw [wbytes_length, pickK_length]; omega) hr) Tryz.call94 rfl rfl ?_
   simp only [sc0, scS]
   refine At.nil (At.blkN (At.thenN (At.region ?_)))
   first | refine tV (Val.addI rfl rfl (by omega) (by omega)) rfl ?_ | refine tV (Val.bin rfl rfl rfl) rfl ?_
   refine tM rfl rfl (tE ?_)
   exact At.again (K + 1) (show K + 1 ≤ _ by omega) (by omega) (Sub.cons rfl (Sub.cons rfl (Sub.cons rfl (Sub.cons rfl (Sub.cons rfl (Sub.cons (congrArg (fun z => some (Value.int IntKind.i64 z)) (by omega)) Sub.nil)))))) (by rw [put8_set _ (by rw [pickK_length]; omega), pickK_succ hkK])
  ·try simp only [hasB, isSizeB, sB] at h7
   obtain rfl : K = (dk σ.ws).length := by omega
   refine At.exitC (At.thenX (At.thenX (At.blkX (At.thenN (tR (tM rfl rfl (tA rfl rfl (tE (At.retC (At.ret1 (.inl rfl) rfl rfl rfl (fun w hw => ?_)))))))))))
   exact ⟨_, rfl, retRK (F := []) ((hw.drop ((List.Sublist.refl _).cons _ |>.cons_cons _ |>.cons_cons _ |>.cons_cons _ |>.cons_cons _ |>.cons_cons _)).perm (List.perm_middle (l₁ := [_, _, _, _, _]) (l₂ := [])))⟩
def viewWs (ws : List Wd) : List (BitVec 64) := ws.map nowW
theorem pickK_at {ws : List Wd} {pk : Nat → Nat → BitVec 64} {k : Nat} {w : Wd} (hk : ws[k]? = some w) : ∀ K, (∀ J, J < K → (dk ws)[J]? ≠ some k) → (pickK ws pk K)[k]? = some w.old
  | 0, _ => olds_at hk
  | K + 1, h => by
    cases hj : (dk ws)[K]? with
    | none => unfold pickK; rw [hj]; exact pickK_at hk K (fun J hJ => h J (by omega))
    | some j =>
      rw [pickK_succ hj]
      have hne : j ≠ k := fun e => h K (by omega) (e ▸ hj)
      rw [List.getElem?_set_ne hne]
      exact pickK_at hk K (fun J hJ => h J (by omega))
theorem dk_inj {ws : List Wd} {I J k : Nat} (h : (dk ws)[I]? = some k) (h' : (dk ws)[J]? = some k) : I = J := by
  have hr := dk_rising ws
  have h1 := List.getElem?_eq_some_iff.1 h
  have h2 := List.getElem?_eq_some_iff.1 h'
  rcases Nat.lt_trichotomy I J with hlt | hlt | hlt
  · have := List.pairwise_iff_getElem.1 hr I J h1.1 h2.1 hlt; rw [h1.2, h2.2] at this; omega
  · exact hlt
  · have := List.pairwise_iff_getElem.1 hr J I h2.1 h1.1 hlt; rw [h1.2, h2.2] at this; omega
theorem pickK_hit {ws : List Wd} {pk : Nat → Nat → BitVec 64} {K k : Nat} (hK : (dk ws)[K]? = some k) : ∀ n, K < n → n ≤ (dk ws).length → (pickK ws pk n)[k]? = some (pk K k)
  | 0, h, _ => by omega
  | n + 1, h, hn => by
    obtain ⟨j, hj⟩ : ∃ j, (dk ws)[n]? = some j := ⟨_, List.getElem?_eq_getElem (by omega)⟩
    rw [pickK_succ hj]
    by_cases e : n = K
    · subst e
      have : j = k := Option.some.inj (hj.symm.trans hK)
      subst this
      obtain ⟨w, hw, _⟩ := mem_dk.1 (List.mem_of_getElem? hj)
      rw [List.getElem?_set_self (by rw [pickK_length]; exact (List.getElem?_eq_some_iff.1 hw).1)]
    · have hne : j ≠ k := fun e2 => e (dk_inj (e2 ▸ hj) hK)
      rw [List.getElem?_set_ne hne]
      exact pickK_hit hK n (by omega) (by omega)
theorem picked_old {ws : List Wd} {pk : Nat → Nat → BitVec 64} {k : Nat} {w : Wd} (hk : ws[k]? = some w) (hn : w.news = []) : (picked ws pk)[k]? = some w.old :=
  pickK_at hk _ fun J _ h => by
    obtain ⟨u, hu, hun⟩ := mem_dk.1 (List.mem_of_getElem? h)
    rw [hk] at hu; cases hu; exact hun hn
theorem picked_new {ws : List Wd} {pk : Nat → Nat → BitVec 64} {K k : Nat} (hK : (dk ws)[K]? = some k) : (picked ws pk)[k]? = some (pk K k) := pickK_hit hK _ (List.getElem?_eq_some_iff.1 hK).1 (Nat.le_refl _)
theorem picked_length (ws : List Wd) (pk : Nat → Nat → BitVec 64) : (picked ws pk).length = ws.length := pickK_length ws pk _
theorem dk_of {ws : List Wd} {k : Nat} {w : Wd} (hk : ws[k]? = some w) (hn : w.news ≠ []) : ∃ K : Nat, (dk ws)[K]? = some k := List.getElem?_of_mem (mem_dk.2 ⟨w, hk, hn⟩)
theorem picked_view (ws : List Wd) : picked ws (pkV ws) = viewWs ws := by
  apply List.ext_getElem?
  intro k
  unfold viewWs
  rw [List.getElem?_map]
  cases hk : ws[k]? with
  | none => rw [List.getElem?_eq_none (by rw [picked_length]; exact List.getElem?_eq_none_iff.1 hk)]; rfl
  | some w =>
    by_cases hn : w.news = []
    · rw [picked_old hk hn]; show _ = some (nowW w); rw [now_old hn]
    · obtain ⟨K, hK⟩ := dk_of hk hn
      rw [picked_new hK, pkV_at hk]; rfl
theorem view_k (p : Nat) (γ : Gh) (σ : Ds) (w : World) (hd : (Dev p γ σ).holds w) :
    RowK Tryz.prog 26 [.pointer (some ⟨p, 0, none⟩)] (Dev p γ σ) 5 1 (wbytes (viewWs σ.ws)).length ((wbytes (viewWs σ.ws)).map bv) w := by
 refine enterVc hd Tryz.func26 rfl Tryz.ntmps26 rfl ?_
 have hgd := Dev.good hd
 simp only [envOf]
 refine tR (tA rfl rfl (tE (tR (tM rfl rfl (At.callRK 0 rfl (fun w hw hr => bytes_k p γ σ 54 [] (pkV σ.ws) w Tryz.call54 (fun w' _ hd' K k wd hK hk hn => by rw [pkV_at hk]; exact viewCl_k p γ σ k wd _ _ w' hk hn hd') hr) Tryz.call53 rfl rfl (fun v1 => (tA rfl rfl (tE (At.retC (At.ret1 (.inl rfl) rfl rfl rfl (fun w hw => ?_)))))))))))
 rw [picked_view] at hw
 exact ⟨_, rfl, hw⟩
end Go.Proofs.YtfchinibjhcejaaGreatDoor
namespace Go.Proofs.YtfchinibjhcejaaGreatDoor
open Go Go.Wk
def wordI (a : Int) (N : Nat) : Nat := (a % (N : Int)).toNat
def noteD (N : Nat) (σ : Ds) (c : Nt) : Ds :=
  if c.1 = 1 then (match σ.ws[wordI c.2.1 N]? with | some w => setD (stepD σ) (wordI c.2.1 N) (pushW w c.2.2) | none => σ)
  else if c.1 = 2 then flushK (stepD σ) (8 * (wordI c.2.1 N / 8)) 8
  else fenceD (stepD σ)
def run (N : Nat) (σ : Ds) (L : List Nt) : Ds := L.foldl (noteD N) σ
theorem dead_of {σ : Ds} (h : σ.armed = false) : deadB σ = false := by unfold deadB; rw [h]; rfl
end Go.Proofs.YtfchinibjhcejaaGreatDoor
namespace Go.Proofs.YtfchinibjhcejaaGreatDoor
open Go Go.Wk
theorem flushK_at {σ : Ds} {f k : Nat} {w : Wd} (h : σ.ws[k]? = some w) : ∀ j, ∃ m, (flushK σ f j).ws[k]? = some { w with mark := m } ∧ (f ≤ k → k < f + j → m = w.news.length) ∧ (¬ (f ≤ k ∧ k < f + j) → m = w.mark)
  | 0 => ⟨w.mark, h, fun h1 h2 => by omega, fun _ => rfl⟩
  | j + 1 => by
    obtain ⟨m, h1, h2, h3⟩ := flushK_at h j
    by_cases e : f + j = k
    · subst e
      rw [flushK_succ h1]
      exact ⟨w.news.length, by unfold setD; simp only; rw [List.getElem?_set_self (List.getElem?_eq_some_iff.1 h1).1]; rfl, fun _ _ => rfl, fun hn => absurd ⟨by omega, by omega⟩ hn⟩
    · cases hq : (flushK σ f j).ws[f + j]? with
      | none =>
        unfold flushK; rw [hq]
        exact ⟨m, h1, fun a b => h2 a (by omega), fun hn => h3 (fun ⟨a, b⟩ => hn ⟨a, by omega⟩)⟩
      | some u =>
        rw [flushK_succ hq]
        exact ⟨m, by unfold setD; simp only; rw [List.getElem?_set_ne e]; exact h1, fun a b => h2 a (by omega), fun hn => h3 (fun ⟨a, b⟩ => hn ⟨a, by omega⟩)⟩
theorem fenceD_at {σ : Ds} {k : Nat} {w : Wd} (h : σ.ws[k]? = some w) : (fenceD σ).ws[k]? = some (fenceW w) := by unfold fenceD; simp [h]
theorem setD_at {σ : Ds} {k j : Nat} {w u : Wd} (h : σ.ws[j]? = some w) (hne : k ≠ j) : (setD σ k u).ws[j]? = some w := by unfold setD; simp only; rw [List.getElem?_set_ne hne]; exact h
theorem setD_self {σ : Ds} {k : Nat} {w u : Wd} (h : σ.ws[k]? = some w) : (setD σ k u).ws[k]? = some u := by unfold setD; simp only; rw [List.getElem?_set_self (List.getElem?_eq_some_iff.1 h).1]
theorem take_succ_of_get {α : Type} {l : List α} {k : Nat} {x : α} (h : l[k]? = some x) : l.take (k + 1) = l.take k ++ [x] := by rw [List.take_add_one, h]; rfl
theorem loadWs_at {l : List UInt8} {K : Nat} (h : 8 * K + 8 ≤ l.length) : (loadD l).ws[K]? = some ⟨wdA l (8 * K), [], 0⟩ := by
  unfold loadD loadWs; simp only; rw [List.getElem?_map, List.getElem?_range (by omega)]; rfl
end Go.Proofs.YtfchinibjhcejaaGreatDoor
namespace Go.Proofs.YtfchinibjhcejaaGreatDoor
open Go Go.Wk
theorem fold_last {α β : Type} (p : α → Bool) (f : α → β) : ∀ (l : List α) (v0 : β), l.foldl (fun o c => if p c = true then f c else o) v0 = ((l.filter p).getLast?.map f).getD v0
  | [], v0 => rfl
  | c :: l, v0 => by
    rw [List.foldl_cons, fold_last p f l]
    cases h : p c with
    | true =>
      rw [List.filter_cons_of_pos h, if_pos rfl, List.getLast?_cons]
      cases (l.filter p).getLast? <;> rfl
    | false =>
      rw [List.filter_cons_of_neg (by rw [h]; simp), if_neg (by simp)]
abbrev Put := Nat × BitVec 64 × Nat
def pj (j : Nat) (l : List Put) : List (BitVec 64 × Nat) := (l.filter fun c => decide (c.1 = j)).map Prod.snd
theorem pj_yes {j : Nat} {l : List Put} {c : Put} (h : c.1 = j) : pj j (l ++ [c]) = pj j l ++ [c.2] := by
  unfold pj; rw [List.filter_append, List.map_append, List.filter_cons_of_pos (p := fun c : Put => decide (c.1 = j)) (decide_eq_true h), List.filter_nil]; rfl
theorem pj_no {j : Nat} {l : List Put} {c : Put} (h : c.1 ≠ j) : pj j (l ++ [c]) = pj j l := by
  unfold pj; rw [List.filter_append, List.map_append, List.filter_cons_of_neg (by rw [decide_eq_false h]; simp), List.filter_nil]; exact List.append_nil _
theorem pj_mem {j : Nat} {l : List Put} {x : BitVec 64 × Nat} (h : x ∈ pj j l) : ∃ c ∈ l, c.2 = x := by
  unfold pj at h
  obtain ⟨c, hc, rfl⟩ := List.mem_map.1 h
  exact ⟨c, (List.mem_filter.1 hc).1, rfl⟩
theorem pj_filter (j : Nat) (l : List Put) (p : BitVec 64 × Nat → Bool) : (pj j l).filter p = (l.filter fun c => decide (c.1 = j) && p c.2).map Prod.snd := by
  unfold pj
  rw [List.filter_map, List.filter_filter]
  congr 1
  apply List.filter_congr
  intro c _
  exact Bool.and_comm _ _
theorem map_last {α β : Type} (f : α → β) (l : List α) : (l.map f).getLast? = l.getLast?.map f := List.getLast?_map ..
theorem oldF_pj (j t : Nat) (v0 : BitVec 64) (l : List Put) : oldF j t v0 l = (((pj j l).filter fun x => decide (x.2 < t)).getLast?.map Prod.fst).getD v0 := by
  have h := fold_last (fun c : Put => decide (c.1 = j) && decide (c.2.2 < t)) (fun c => c.2.1) l v0
  rw [pj_filter, map_last, Option.map_map]
  show oldF j t v0 l = ((l.filter fun c => decide (c.1 = j) && decide (c.2.2 < t)).getLast?.map (fun c => c.2.1)).getD v0
  rw [← h]
  unfold oldF
  congr 1
  funext o c
  simp only [Bool.and_eq_true, decide_eq_true_eq]
theorem nowF_pj (j : Nat) (v0 : BitVec 64) (l : List Put) : nowF j v0 l = ((pj j l).getLast?.map Prod.fst).getD v0 := by
  have h := fold_last (fun c : Put => decide (c.1 = j)) (fun c => c.2.1) l v0
  unfold pj
  rw [map_last, Option.map_map]
  show nowF j v0 l = ((l.filter fun c => decide (c.1 = j)).getLast?.map (fun c => c.2.1)).getD v0
  rw [← h]
  unfold nowF
  congr 1
  funext o c
  simp only [decide_eq_true_eq]
theorem newsF_pj (j t : Nat) (l : List Put) : newsF j t l = ((pj j l).filter fun x => decide (¬ x.2 < t)).map Prod.fst := by
  rw [pj_filter, List.map_map]
  unfold newsF
  congr 1
  apply List.filter_congr
  intro c _
  rw [Bool.eq_iff_iff]; simp only [Bool.and_eq_true, decide_eq_true_eq]
def lastF (fl : List Nat) : Nat := fl.getLast?.getD 0
theorem lastF_snoc (fl : List Nat) (x : Nat) : lastF (fl ++ [x]) = x := by simp [lastF]
theorem setF_all : ∀ (fl : List Nat) (F : Nat), (∀ t ∈ fl, t < F) → setF F fl = lastF fl := by
  intro fl F h
  have := fold_last (fun x : Nat => decide (x < F)) (fun x => x) fl 0
  have e : setF F fl = fl.foldl (fun o c => if decide (c < F) = true then c else o) 0 := by unfold setF; congr 1; funext o c; simp only [decide_eq_true_eq]
  rw [e, this, List.filter_eq_self.2 (fun x hx => decide_eq_true (h x hx)), Option.map_id']; rfl
def SimW (t f : Nat) (P : List (BitVec 64 × Nat)) (v0 : BitVec 64) (w : Wd) : Prop :=
  ∃ A B C, P = A ++ (B ++ C) ∧ (∀ x ∈ A, x.2 < t) ∧ (∀ x ∈ B, t ≤ x.2 ∧ x.2 < f) ∧ (∀ x ∈ C, t ≤ x.2 ∧ f ≤ x.2) ∧ w.old = (A.getLast?.map Prod.fst).getD v0 ∧ w.news = (B ++ C).map Prod.fst ∧ w.mark = B.length
theorem simW_push {t f T : Nat} {P : List (BitVec 64 × Nat)} {v0 x : BitVec 64} {w : Wd} (h : SimW t f P v0 w) (h1 : t ≤ T) (h2 : f ≤ T) : SimW t f (P ++ [(x, T)]) v0 (pushW w x) := by
  obtain ⟨A, B, C, rfl, hA, hB, hC, ho, hn, hm⟩ := h
  refine ⟨A, B, C ++ [(x, T)], by simp, hA, hB, fun y hy => ?_, ho, ?_, hm⟩
  · rcases List.mem_append.1 hy with hy | hy
    · exact hC y hy
    · rw [List.mem_singleton.1 hy]; exact ⟨h1, h2⟩
  · show w.news ++ [x] = _
    rw [hn]; simp
theorem simW_flush {t f T : Nat} {P : List (BitVec 64 × Nat)} {v0 : BitVec 64} {w : Wd} (h : SimW t f P v0 w) (hP : ∀ y ∈ P, y.2 < T) : SimW t T P v0 (markW w) := by
  obtain ⟨A, B, C, rfl, hA, hB, hC, ho, hn, hm⟩ := h
  refine ⟨A, B ++ C, [], by simp, hA, fun y hy => ?_, by simp, ho, by rw [List.append_nil]; exact hn, ?_⟩
  · refine ⟨?_, hP y (List.mem_append_right _ hy)⟩
    rcases List.mem_append.1 hy with hy | hy
    · exact (hB y hy).1
    · exact (hC y hy).1
  · show w.news.length = _
    rw [hn, List.length_map]
theorem simW_fence {t f : Nat} {P : List (BitVec 64 × Nat)} {v0 : BitVec 64} {w : Wd} (h : SimW t f P v0 w) (htf : t ≤ f) : SimW f f P v0 (fenceW w) := by
  obtain ⟨A, B, C, rfl, hA, hB, hC, ho, hn, hm⟩ := h
  refine ⟨A ++ B, [], C, by simp, fun y hy => ?_, by simp, fun y hy => ⟨(hC y hy).2, (hC y hy).2⟩, ?_, ?_, ?_⟩
  · rcases List.mem_append.1 hy with hy | hy
    · exact Nat.lt_of_lt_of_le (hA y hy) htf
    · exact (hB y hy).2
  · unfold fenceW
    split
    · have : B = [] := List.eq_nil_of_length_eq_zero (by omega)
      subst this; rw [List.append_nil]; exact ho
    · rename_i h0
      have hBn : B ≠ [] := fun e => h0 (by rw [hm, e]; rfl)
      obtain ⟨b, hb⟩ : ∃ b, B.getLast? = some b := ⟨_, List.getLast?_eq_some_getLast hBn⟩
      have hw : w.news[w.mark - 1]? = some b.1 := by
        rw [hn, hm, List.map_append, List.getElem?_append_left (by rw [List.length_map]; have := List.length_pos_iff.2 hBn; omega), List.getElem?_map, ← List.getLast?_eq_getElem?, hb]; rfl
      simp only [hw, Option.getD_some]
      rw [List.getLast?_append, hb]; rfl
  · unfold fenceW
    split
    · have : B = [] := List.eq_nil_of_length_eq_zero (by omega)
      subst this; exact hn
    · show w.news.drop w.mark = _
      rw [hn, hm, List.map_append, List.drop_left' (by rw [List.length_map])]; rfl
  · unfold fenceW
    split
    · assumption
    · rfl
theorem simW_eval {t f j : Nat} {l : List Put} {v0 : BitVec 64} {w : Wd} (h : SimW t f (pj j l) v0 w) : oldF j t v0 l = w.old ∧ newsF j t l = w.news ∧ nowF j v0 l = nowW w := by
  obtain ⟨A, B, C, hP, hA, hB, hC, ho, hn, hm⟩ := h
  have e1 : (A ++ (B ++ C)).filter (fun x => decide (x.2 < t)) = A := by
    rw [List.filter_append, List.filter_eq_self.2 (fun x hx => decide_eq_true (hA x hx)), List.filter_eq_nil_iff.2 (fun x hx => ?_), List.append_nil]
    rcases List.mem_append.1 hx with h | h
    · have := (hB x h).1; simp only [decide_eq_true_eq]; omega
    · have := (hC x h).1; simp only [decide_eq_true_eq]; omega
  have e2 : (A ++ (B ++ C)).filter (fun x => decide (¬ x.2 < t)) = B ++ C := by
    rw [List.filter_append, List.filter_eq_nil_iff.2 (fun x hx => ?_), List.nil_append, List.filter_eq_self.2 (fun x hx => ?_)]
    · rcases List.mem_append.1 hx with h | h
      · have := (hB x h).1; simp only [decide_eq_true_eq]; omega
      · have := (hC x h).1; simp only [decide_eq_true_eq]; omega
    · have := hA x hx; simp only [decide_eq_true_eq]; omega
  refine ⟨by rw [oldF_pj, hP, e1, ho], by rw [newsF_pj, hP, e2, hn], ?_⟩
  rw [nowF_pj, hP]
  unfold nowW
  rw [hn, map_last, ho, List.getLast?_append]
  cases (B ++ C).getLast? <;> rfl
structure Sim (σ : Ds) (ρ : Rs) : Prop where
  len : σ.ws.length = 8 * ρ.ls.length
  now : σ.steps = ρ.now
  left : ρ.left = if σ.armed = true then (σ.left : Int) else -1
  fen : ρ.fenced ≤ ρ.now
  line : ∀ (k : Nat) (l : Rl), ρ.ls[k]? = some l → setF ρ.fenced l.fl ≤ lastF l.fl ∧ lastF l.fl ≤ ρ.now ∧ (∀ c ∈ l.puts, c.2.2 ≤ ρ.now) ∧ (∀ t ∈ l.fl, t ≤ ρ.now) ∧ l.first.length = 8 ∧
    ∀ j, j < 8 → ∃ v0 w, l.first[j]? = some v0 ∧ σ.ws[8 * k + j]? = some w ∧ SimW (setF ρ.fenced l.fl) (lastF l.fl) (pj j l.puts) v0 w
theorem Sim.dead {σ : Ds} {ρ : Rs} (h : Sim σ ρ) : deadB σ = decide (ρ.left = 0) := by
  unfold deadB
  rw [h.left]
  cases σ.armed with
  | true => simp
  | false => simp
theorem Sim.alive {σ : Ds} {ρ : Rs} (h : Sim σ ρ) (hd : deadB σ = false) : ρ.left ≠ 0 := by rw [h.dead] at hd; exact of_decide_eq_false hd
theorem Sim.isdead {σ : Ds} {ρ : Rs} (h : Sim σ ρ) (hd : deadB σ = true) : ρ.left = 0 := by rw [h.dead] at hd; exact of_decide_eq_true hd
theorem Sim.has {σ : Ds} {ρ : Rs} (h : Sim σ ρ) (a n : Int) : hasR ρ a n = hasB σ a n := by unfold hasR hasB; rw [h.len]; congr 1; rw [eq_iff_iff]; omega
theorem Sim.wrong {σ : Ds} {ρ : Rs} (h : Sim σ ρ) (a : Int) : wrongE ρ a = placeE σ a := by unfold wrongE placeE; rw [h.len, show 8 * ((8 * ρ.ls.length : Nat) : Int) = 64 * (ρ.ls.length : Int) by omega]
theorem Sim.stepLeft {σ : Ds} {ρ : Rs} (h : Sim σ ρ) (hd : deadB σ = false) : (stepR ρ).left = if (stepD σ).armed = true then ((stepD σ).left : Int) else -1 := by
  have h0 := h.alive hd
  have hl := h.left
  unfold stepR stepD
  simp only
  cases ha : σ.armed with
  | true =>
    rw [ha] at hl
    simp only [if_true] at hl ⊢
    split <;> omega
  | false =>
    rw [ha] at hl
    simp only [Bool.false_eq_true, if_false] at hl ⊢
    rw [hl]; rfl
theorem Sim.at {σ : Ds} {ρ : Rs} (h : Sim σ ρ) {K : Nat} (hK : K < σ.ws.length) : ∃ l v0 w, ρ.ls[K / 8]? = some l ∧ l.first[K % 8]? = some v0 ∧ σ.ws[K]? = some w ∧ SimW (setF ρ.fenced l.fl) (lastF l.fl) (pj (K % 8) l.puts) v0 w := by
  have hl := h.len
  obtain ⟨l, hk⟩ : ∃ l, ρ.ls[K / 8]? = some l := ⟨_, List.getElem?_eq_getElem (by omega)⟩
  obtain ⟨_, _, _, _, _, h6⟩ := h.line _ l hk
  obtain ⟨v0, w, h1, h2, h3⟩ := h6 (K % 8) (by omega)
  exact ⟨l, v0, w, hk, h1, by rwa [show 8 * (K / 8) + K % 8 = K by omega] at h2, h3⟩
theorem Sim.store {σ : Ds} {ρ : Rs} {k j : Nat} {l : Rl} {w : Wd} {x : BitVec 64} (h : Sim σ ρ) (hd : deadB σ = false) (hk : ρ.ls[k]? = some l) (hj : j < 8) (hw : σ.ws[8 * k + j]? = some w) : Sim (setD (stepD σ) (8 * k + j) (pushW w x)) (storeL ρ k j l x) := by
  refine ⟨?_, by show σ.steps + 1 = ρ.now + 1; rw [h.now], h.stepLeft hd, Nat.le_succ_of_le h.fen, fun i m hm => ?_⟩
  · show (List.set _ _ _).length = 8 * (List.set _ _ _).length
    rw [List.length_set, List.length_set]; exact h.len
  · have hm' : (ρ.ls.set k { l with puts := l.puts ++ [(j, x, ρ.now + 1)] })[i]? = some m := hm
    by_cases e : k = i
    · subst e
      rw [List.getElem?_set_self (List.getElem?_eq_some_iff.1 hk).1] at hm'
      obtain rfl := Option.some.inj hm'
      obtain ⟨h1, h2, h3, h4, h5, h6⟩ := h.line k l hk
      refine ⟨h1, Nat.le_succ_of_le h2, fun c hc => ?_, fun t ht => Nat.le_succ_of_le (h4 t ht), h5, fun j' hj' => ?_⟩
      · rcases List.mem_append.1 hc with hc | hc
        · exact Nat.le_succ_of_le (h3 c hc)
        · rw [List.mem_singleton.1 hc]; exact Nat.le_refl _
      · obtain ⟨v0, u, g1, g2, g3⟩ := h6 j' hj'
        by_cases ej : j = j'
        · subst ej
          rw [hw] at g2
          obtain rfl := Option.some.inj g2
          exact ⟨v0, _, g1, setD_self (σ := stepD σ) hw, by show SimW _ _ (pj j (l.puts ++ [(j, x, ρ.now + 1)])) v0 _; rw [pj_yes (c := (j, x, ρ.now + 1)) rfl]; exact simW_push g3 (show setF ρ.fenced l.fl ≤ ρ.now + 1 by omega) (Nat.le_succ_of_le h2)⟩
        · exact ⟨v0, u, g1, setD_at (σ := stepD σ) g2 (by omega), by show SimW _ _ (pj j' (l.puts ++ [(j, x, ρ.now + 1)])) v0 _; rw [pj_no (c := (j, x, ρ.now + 1)) ej]; exact g3⟩
    · rw [List.getElem?_set_ne e] at hm'
      obtain ⟨h1, h2, h3, h4, h5, h6⟩ := h.line i m hm'
      refine ⟨h1, Nat.le_succ_of_le h2, fun c hc => Nat.le_succ_of_le (h3 c hc), fun t ht => Nat.le_succ_of_le (h4 t ht), h5, fun j' hj' => ?_⟩
      obtain ⟨v0, u, g1, g2, g3⟩ := h6 j' hj'
      exact ⟨v0, u, g1, setD_at (σ := stepD σ) g2 (by omega), g3⟩
theorem Sim.flush {σ : Ds} {ρ : Rs} {k : Nat} {l : Rl} (h : Sim σ ρ) (hd : deadB σ = false) (hk : ρ.ls[k]? = some l) : Sim (lineD σ k) (flushL ρ k l) := by
  have hr := lineD_rest σ k
  have hkR := flushK_rest (stepD σ) (8 * k) 8
  refine ⟨?_, by rw [hr.1]; show σ.steps + 1 = ρ.now + 1; rw [h.now], ?_, Nat.le_succ_of_le h.fen, fun i m hm => ?_⟩
  · show _ = 8 * (List.set _ _ _).length
    rw [List.length_set, hr.2.2]; exact h.len
  · have := h.stepLeft hd
    show (stepR ρ).left = _
    rw [this, show (lineD σ k).armed = (stepD σ).armed from hkR.2.1, show (lineD σ k).left = (stepD σ).left from hkR.2.2.1]
  · have hm' : (ρ.ls.set k { l with fl := l.fl ++ [ρ.now + 1] })[i]? = some m := hm
    by_cases e : k = i
    · subst e
      rw [List.getElem?_set_self (List.getElem?_eq_some_iff.1 hk).1] at hm'
      obtain rfl := Option.some.inj hm'
      obtain ⟨h1, h2, h3, h4, h5, h6⟩ := h.line k l hk
      have hf := h.fen
      have e1 : setF ρ.fenced (l.fl ++ [ρ.now + 1]) = setF ρ.fenced l.fl := by rw [setF_snoc, if_neg (by omega)]
      refine ⟨?_, ?_, fun c hc => Nat.le_succ_of_le (h3 c hc), fun t ht => ?_, h5, fun j' hj' => ?_⟩
      · show setF ρ.fenced (l.fl ++ [ρ.now + 1]) ≤ lastF (l.fl ++ [ρ.now + 1])
        rw [e1, lastF_snoc]; omega
      · show lastF (l.fl ++ [ρ.now + 1]) ≤ ρ.now + 1
        rw [lastF_snoc]; exact Nat.le_refl _
      · rcases List.mem_append.1 ht with ht | ht
        · exact Nat.le_succ_of_le (h4 t ht)
        · rw [List.mem_singleton.1 ht]; exact Nat.le_refl _
      · obtain ⟨v0, u, g1, g2, g3⟩ := h6 j' hj'
        obtain ⟨mm, q1, q2, _⟩ := flushK_at (σ := stepD σ) (f := 8 * k) g2 8
        refine ⟨v0, _, g1, q1, ?_⟩
        show SimW (setF ρ.fenced (l.fl ++ [ρ.now + 1])) (lastF (l.fl ++ [ρ.now + 1])) (pj j' l.puts) v0 _
        rw [e1, lastF_snoc, q2 (by omega) (by omega)]
        refine simW_flush g3 (fun y hy => ?_)
        obtain ⟨c, hc, rfl⟩ := pj_mem hy
        exact Nat.lt_succ_of_le (h3 c hc)
    · rw [List.getElem?_set_ne e] at hm'
      obtain ⟨h1, h2, h3, h4, h5, h6⟩ := h.line i m hm'
      refine ⟨h1, Nat.le_succ_of_le h2, fun c hc => Nat.le_succ_of_le (h3 c hc), fun t ht => Nat.le_succ_of_le (h4 t ht), h5, fun j' hj' => ?_⟩
      obtain ⟨v0, u, g1, g2, g3⟩ := h6 j' hj'
      obtain ⟨mm, q1, _, q3⟩ := flushK_at (σ := stepD σ) (f := 8 * k) g2 8
      exact ⟨v0, _, g1, q1, by rw [q3 (by omega)]; exact g3⟩
theorem Sim.fence {σ : Ds} {ρ : Rs} (h : Sim σ ρ) (hd : deadB σ = false) : Sim (fenceD (stepD σ)) (fenceR ρ) := by
  refine ⟨by show (List.map _ _).length = _; rw [List.length_map]; exact h.len, by show σ.steps + 1 = ρ.now + 1; rw [h.now], h.stepLeft hd, Nat.le_refl _, fun i m hm => ?_⟩
  obtain ⟨h1, h2, h3, h4, h5, h6⟩ := h.line i m hm
  have e1 : setF (ρ.now + 1) m.fl = lastF m.fl := setF_all _ _ fun t ht => Nat.lt_succ_of_le (h4 t ht)
  refine ⟨by show setF (ρ.now + 1) m.fl ≤ _; rw [e1]; exact Nat.le_refl _, Nat.le_succ_of_le h2, fun c hc => Nat.le_succ_of_le (h3 c hc), fun t ht => Nat.le_succ_of_le (h4 t ht), h5, fun j' hj' => ?_⟩
  obtain ⟨v0, u, g1, g2, g3⟩ := h6 j' hj'
  refine ⟨v0, _, g1, fenceD_at (σ := stepD σ) g2, ?_⟩
  show SimW (setF (ρ.now + 1) m.fl) _ _ _ _
  rw [e1]
  exact simW_fence g3 h1
theorem Sim.arm {σ : Ds} {ρ : Rs} (h : Sim σ ρ) (m : Nat) : Sim (armD σ m) (armR ρ m) := ⟨h.len, h.now, by show (m : Int) = _; simp [armD], h.fen, h.line⟩
theorem sim_start (ls : List Rl) (ws : List Wd) (hl : ws.length = 8 * ls.length) (h : ∀ (k : Nat) (l : Rl), ls[k]? = some l → l.puts = [] ∧ l.fl = [] ∧ l.first.length = 8 ∧ ∀ j, j < 8 → ∃ v0, l.first[j]? = some v0 ∧ ws[8 * k + j]? = some ⟨v0, [], 0⟩) : Sim ⟨ws, 0, false, 0⟩ ⟨ls, 0, 0, -1⟩ := by
  refine ⟨hl, rfl, rfl, Nat.le_refl _, fun k l hk => ?_⟩
  obtain ⟨h1, h2, h3, h4⟩ := h k l hk
  refine ⟨by rw [h2]; exact Nat.le_refl _, by rw [h2]; exact Nat.le_refl _, by rw [h1]; simp, by rw [h2]; simp, h3, fun j hj => ?_⟩
  obtain ⟨v0, g1, g2⟩ := h4 j hj
  exact ⟨v0, _, g1, g2, [], [], [], by rw [h1]; rfl, by simp, by simp, by simp, rfl, rfl, rfl⟩
def lineR (l : List UInt8) (k : Nat) : Rl := ⟨(List.range 8).map fun j => wdA l (8 * (8 * k + j)), [], []⟩
def loadR (l : List UInt8) (M : Nat) : Rs := ⟨(List.range M).map (lineR l), 0, 0, -1⟩
theorem sim_load {l : List UInt8} {M : Nat} (hl : l.length = 64 * M) : Sim (loadD l) (loadR l M) := by
  refine sim_start _ _ (by unfold loadWs; simp only [List.length_map, List.length_range]; omega) fun k m hk => ?_
  rw [List.getElem?_map] at hk
  have hkM : k < M := by
    rcases Nat.lt_or_ge k M with h | h
    · exact h
    · rw [List.getElem?_eq_none (by rw [List.length_range]; exact h)] at hk; cases hk
  rw [List.getElem?_range hkM] at hk
  obtain rfl := Option.some.inj hk
  refine ⟨rfl, rfl, by simp [lineR], fun j hj => ⟨wdA l (8 * (8 * k + j)), by unfold lineR; simp only; rw [List.getElem?_map, List.getElem?_range hj]; rfl, ?_⟩⟩
  exact loadWs_at (by omega)
end Go.Proofs.YtfchinibjhcejaaGreatDoor
namespace Go.Proofs.YtfchinibjhcejaaGreatDoor
open Go Go.Wk
theorem K_split (K : Nat) : 8 * ((8 * (K / 8) + K % 8 : Nat) : Int) = 8 * (K : Int) := by omega
theorem rnow_s (p : Nat) (γ : Rg) (ρ : Rs) (σ : Ds) (K : Nat) (wd : Wd) (w : World) (hsim : Sim σ ρ) (hk : σ.ws[K]? = some wd) (hd : (RDev p γ ρ).holds w) : Upd Tryz.prog 180 [.pointer (some ⟨p, 0, none⟩), .int .i64 (8 * (K : Int))] (RDev p γ ρ) (b64 (nowW wd)) (RDev p γ ρ) w := by
  obtain ⟨l, v0, u, h1, h2, h3, h4⟩ := hsim.at (List.getElem?_eq_some_iff.1 hk).1
  obtain rfl := Option.some.inj (hk.symm.trans h3)
  have := rnow_k p γ ρ (K / 8) (K % 8) l v0 w h1 (Nat.mod_lt _ (by decide)) h2 hd
  rwa [K_split, (simW_eval h4).2.2] at this
theorem rword_s (p : Nat) (γ : Rg) (ρ : Rs) (σ : Ds) (K : Nat) (wd : Wd) (w : World) (hsim : Sim σ ρ) (hk : σ.ws[K]? = some wd) (hd : (RDev p γ ρ).holds w) : RowKT Tryz.prog 169 [.pointer (some ⟨p, 0, none⟩), .int .i64 (8 * (K : Int))] (RDev p γ ρ) (fun v' => .tuple #[b64 wd.old, v']) tW 1 wd.news.length (wd.news.map b64) w := by
  obtain ⟨l, v0, u, h1, h2, h3, h4⟩ := hsim.at (List.getElem?_eq_some_iff.1 hk).1
  obtain rfl := Option.some.inj (hk.symm.trans h3)
  have := rword_k p γ ρ (K / 8) (K % 8) l v0 w h1 (Nat.mod_lt _ (by decide)) h2 hd
  rwa [K_split, (simW_eval h4).1, (simW_eval h4).2.1] at this
theorem rWord_s (p : Nat) (γ : Rg) (ρ : Rs) (σ : Ds) (K : Nat) (wd : Wd) (w : World) (hsim : Sim σ ρ) (hk : σ.ws[K]? = some wd) (hd : (RDev p γ ρ).holds w) : Upd Tryz.prog 151 [.pointer (some ⟨p, 0, none⟩), .int .i64 (8 * (K : Int))] (RDev p γ ρ) (.tuple #[b64 (nowW wd), .int .i64 0]) (RDev p γ ρ) w := by
  obtain ⟨l, v0, u, h1, h2, h3, h4⟩ := hsim.at (List.getElem?_eq_some_iff.1 hk).1
  obtain rfl := Option.some.inj (hk.symm.trans h3)
  have := rWord_k p γ ρ (K / 8) (K % 8) l v0 w h1 (Nat.mod_lt _ (by decide)) h2 hd
  rwa [K_split, (simW_eval h4).2.2] at this
def inD (ws : List Wd) (k : Nat) : Bool := match ws[k]? with | some w => inDoubt w | none => false
def dkc (ws : List Wd) (K : Nat) : Nat := ((List.range K).filter (inD ws)).length
theorem inD_some {ws : List Wd} {k : Nat} {w : Wd} (h : ws[k]? = some w) : inD ws k = inDoubt w := by unfold inD; rw [h]
theorem inDoubt_T {w : Wd} (h : w.news ≠ []) : inDoubt w = true := by cases hn : w.news with | nil => exact absurd hn h | cons a l => simp [inDoubt, hn]
theorem inDoubt_F {w : Wd} (h : w.news = []) : inDoubt w = false := by simp [inDoubt, h]
theorem dkc_yes {ws : List Wd} {K : Nat} {w : Wd} (h : ws[K]? = some w) (hn : w.news ≠ []) : dkc ws (K + 1) = dkc ws K + 1 := by
  unfold dkc; rw [List.range_succ, List.filter_append, List.length_append, List.filter_cons_of_pos (by rw [inD_some h]; exact inDoubt_T hn)]; rfl
theorem dkc_no {ws : List Wd} {K : Nat} {w : Wd} (h : ws[K]? = some w) (hn : w.news = []) : dkc ws (K + 1) = dkc ws K := by
  unfold dkc; rw [List.range_succ, List.filter_append, List.length_append, List.filter_cons_of_neg (by rw [inD_some h, inDoubt_F hn]; simp)]; rfl
theorem dkc_at {ws : List Wd} {K : Nat} {w : Wd} (h : ws[K]? = some w) (hn : w.news ≠ []) : (dk ws)[dkc ws K]? = some K := by
  have hk := (List.getElem?_eq_some_iff.1 h).1
  have e : dk ws = (List.range ws.length).filter (inD ws) := rfl
  rw [e, show ws.length = (K + 1) + (ws.length - (K + 1)) by omega, List.range_add, List.filter_append, List.range_succ, List.filter_append, List.filter_cons_of_pos (by rw [inD_some h]; exact inDoubt_T hn), List.append_assoc]
  unfold dkc
  rw [List.getElem?_append_right (Nat.le_refl _), Nat.sub_self]; rfl
theorem dkc_all (ws : List Wd) : dkc ws ws.length = (dk ws).length := rfl
theorem dkc_le (ws : List Wd) (K : Nat) : dkc ws K ≤ K := by unfold dkc; exact Nat.le_trans (List.length_filter_le _ _) (by rw [List.length_range]; exact Nat.le_refl _)
def restI (c n : Int) : Int := if c.tmod n < 0 then c.tmod n + n else c.tmod n
theorem restI_bd {n : Nat} (c : Int) (h : n ≤ 1099511627776) : 0 ≤ restI c ((n : Int) + 1) ∧ restI c ((n : Int) + 1) ≤ n := by
  have h1 := Int.lt_tmod_of_pos c (b := (n : Int) + 1) (by omega)
  have h2 := Int.tmod_lt_of_pos c (b := (n : Int) + 1) (by omega)
  unfold restI; split <;> omega
theorem At.idxI' {P : Program} {Γ : Ctx} {E : Env} {H : List Res} {ops : Array Oper} {Q : Exit → Act → World → Prop} {rest : List Oper} {d : Nat} {ty : TypeId} {pos : String} {after : Array Edge} {x y : Operand} {v : Value} {t el : Nat} {l : List Int} {k : IntKind} {j : Int} {g : Option (Nat × Bool)} (h : RdI Γ.w0 v l) (ho : Off v (l.map (Value.int .i64)) Γ.S) (hu : P.underlying t = some (.slice el)) (hs : ∀ w, (sizeOf el).run P w = .ok 1 w) (hx : ev E x = some v) (hy : ev E y = some (.int k j)) (h0 : 0 ≤ j) (h1 : j < l.length)
    (hg : g = none) (hn : Nat.blt d Γ.n = true)
    (c : ∀ b o q, l[j.toNat]? = some q → Γ.w0.cell? ⟨b, o, none⟩ = some (.int .i64 q) → ¬ Γ.S b → At Γ ((d, .pointer (some ⟨b, o, none⟩)) :: E) H (wpList P ops Q rest)) :
    At Γ E H (wpList P ops Q ({ dst := some d, op := .indexAddr t x y, type := ty, pos, after, guard := g } :: rest)) := by
  obtain ⟨b, o, cap, rfl, hc⟩ := h.at (j := j.toNat) (by omega)
  have hq : l[j.toNat]? = some (l[j.toNat]'(by omega)) := List.getElem?_eq_getElem _
  exact At.val (Val.indexSl _ rfl hu hs hx hy h0 h1) hg rfl hn (c b _ _ hq (by have := hc 0 _ (by rw [Nat.mul_one, Nat.add_zero, List.getElem?_map, hq]; rfl); rwa [Nat.add_zero] at this) (ho (fun e => by rw [List.map_eq_nil_iff] at e; subst e; simp at h1; omega) b _ _ _ _ rfl))
theorem rput_r (v : Value) (K : Nat) (l : List UInt8) (x : BitVec 64) (w : World) (ho8 : 8 * K + 8 ≤ l.length) (hl : l.length ≤ 1000000) (hr : (brow 5 v l).holds w) :
    Upd Tryz.prog 171 [v, .int .i64 (8 * (K : Int)), b64 x] (brow 5 v l) (.tuple #[]) (brow 5 v (put8 l (8 * K) x)) w := by
 refine enter (feet [brow 5 v l]) [brow 5 v l] Tryz.func171 rfl Tryz.ntmps171 rfl (Rep.one hr) ?_
 simp only [envOf]
 refine tR (tA rfl rfl (tE (At.block ?_)))
 skip
 refine At.loop (σ := Nat) (fun k => k ≤ 8) (fun k => [(0, v), (1, .int .i64 (8 * (K : Int))), (2, b64 x), (6, .int .i64 (k : Int))]) (fun k => [brow 5 v (putK l (8 * K) x k)]) (fun k => 8 - k) 0 (Nat.zero_le _) (Sub.cons rfl (Sub.cons rfl (Sub.cons rfl (Sub.cons rfl Sub.nil)))) (by rw [putK_zero]) ?_
 intro k hs
 refine At.seq (tR (tM rfl rfl (tV (Val.bin rfl rfl rfl) rfl (tE ?_))))
 refine At.cond rfl (fun h1 => ?_) (fun h1 => ?_)
 ·try simp only [hasB, isSizeB, sB] at h1
  have hk : k < 8 := by omega
  refine At.skipC (At.thenN (At.seq (At.block (At.region (tM rfl rfl (tM rfl rfl (tM rfl rfl ?_)))))))
  first | refine tV (Val.addI rfl rfl (by omega) (by omega)) rfl ?_ | refine tV (Val.bin rfl rfl rfl) rfl ?_
  refine tM rfl rfl (tM rfl rfl ?_)
  first | refine tV (Val.mulI rfl rfl (by omega) (by omega)) rfl ?_ | refine tV (Val.bin rfl rfl rfl) rfl ?_
  first | refine tV (Val.toU Tryz.underlying3 Tryz.underlying131 rfl (by omega) (by omega)) rfl ?_ | refine tV (Val.conv Tryz.underlying3 Tryz.underlying131 rfl) rfl ?_
  refine tV (Val.shr rfl rfl (by omega)) rfl ?_
  rw [shr_byte x hk]
  refine tV (Val.toB Tryz.underlying43 Tryz.underlying5 rfl (Int.natCast_nonneg _)) rfl ?_
  rw [Int.toNat_natCast]
  have hpl := putK_length (l := l) (o := 8 * K) (k := k) x (by omega) (by omega)
  refine tV (Val.indexRow (i := 0) (8 * K + k) (by omega) Tryz.underlying29 Tryz.sizeOf5 rfl rfl rfl (by omega) (by rw [hpl]; omega)) rfl (At.storeRowB (i := 0) Tryz.sizeOf5 rfl rfl rfl (by omega) ?_)
  simp only [sc0, scS]
  rw [putK_step x (by omega) hk]
  refine At.nil (At.blkN (At.thenN (At.region (tM rfl rfl ?_))))
  first | refine tV (Val.addI rfl rfl (by omega) (by omega)) rfl ?_ | refine tV (Val.bin rfl rfl rfl) rfl ?_
  refine tA rfl rfl (tE ?_)
  exact At.again (k + 1) (show k + 1 ≤ 8 by omega) (by omega) (Sub.cons rfl (Sub.cons rfl (Sub.cons rfl (Sub.cons (congrArg (fun z => some (Value.int IntKind.i64 z)) (by omega)) Sub.nil)))) (List.Perm.refl _)
 ·try simp only [hasB, isSizeB, sB] at h1
  obtain rfl : k = 8 := by omega
  refine At.exitC (At.thenX (At.thenX (At.blkX (At.ret0 (.inr rfl) rfl rfl  (fun w hw => ?_)))))
  exact ⟨rfl, hw⟩
theorem rest_p (c n : Int) (w : World) (h0 : 0 < n) (h1 : n ≤ 1099511627776) :
    PureC Tryz.prog 170 [.int .i64 c, .int .i64 n] (.int .i64 (restI c n)) w := by
 refine enter0 Tryz.func170 rfl Tryz.ntmps170 rfl ?_
 have hb1 := Int.lt_tmod_of_pos c h0
 have hb2 := Int.tmod_lt_of_pos c h0
 simp only [envOf]
 refine tR (tA rfl rfl (tE (tR (tM rfl rfl (tM rfl rfl (tV (Val.rem rfl rfl (by omega)) rfl (tA rfl rfl (tE (At.seq (tR (tM rfl rfl (tV (Val.bin rfl rfl rfl) rfl (tE ?_)))))))))))))
 refine At.cond rfl (fun h1 => ?_) (fun h1 => ?_)
 ·try simp only [hasB, isSizeB, sB] at h1
  refine At.region (tM rfl rfl (tM rfl rfl ?_))
  first | refine tV (Val.addI rfl rfl (by omega) (by omega)) rfl ?_ | refine tV (Val.bin rfl rfl rfl) rfl ?_
  refine tA rfl rfl (tE (tR (tM rfl rfl (tA rfl rfl (tE (At.retC (At.ret1 (.inl rfl) rfl rfl rfl (fun w hw => ?_))))))))
  exact ⟨congrArg (fun z => Ending.returned (Value.int .i64 z)) (by unfold restI; first | rw [if_pos (by assumption)] | rw [if_neg (by assumption)]), hw.mod⟩
 ·try simp only [hasB, isSizeB, sB] at h1
  refine At.skipC (At.thenN (tR (tM rfl rfl (tA rfl rfl (tE (At.retC (At.ret1 (.inl rfl) rfl rfl rfl (fun w hw => ?_))))))))
  exact ⟨congrArg (fun z => Ending.returned (Value.int .i64 z)) (by unfold restI; first | rw [if_pos (by assumption)] | rw [if_neg (by assumption)]), hw.mod⟩
theorem rview_s (p : Nat) (γ : Rg) (ρ : Rs) (σ : Ds) (w : World) (hsim : Sim σ ρ) (hwl : σ.ws.length ≤ 65536) (hd : (RDev p γ ρ).holds w) :
    RowK Tryz.prog 161 [.pointer (some ⟨p, 0, none⟩)] (RDev p γ ρ) 5 1 (wbytes (viewWs σ.ws)).length ((wbytes (viewWs σ.ws)).map bv) w := by
 refine enterRc hd Tryz.func161 rfl Tryz.ntmps161 rfl ?_
 obtain ⟨hQ, hg⟩ := RDev.facts hd
 have hln := hg.len
 have hps := hg.pos
 have hnw := hg.now
 have hsl := hsim.len
 have hxs : (viewWs σ.ws).length = σ.ws.length := List.length_map ..
 simp only [envOf]
 refine tR (tA rfl rfl (tE (tR (tM rfl rfl (At.callK 0 rfl (fun w hw hr => rsize_k _ _ _ w hr) Tryz.call132 rfl rfl ?_)))))
 rw [show 64 * (ρ.ls.length : Int) = ((8 * σ.ws.length : Nat) : Int) from by have := hsim.len; omega]
 refine At.makeRowB (n := 8 * σ.ws.length) Tryz.underlying29 info_5 rfl rfl rfl rfl rfl (by omega) rfl (fun v1 => ?_)
 rw [← wbytes_zero]
 refine tA rfl rfl (tE (At.seq (tR (tA rfl rfl (tE (At.block ?_))))))
 skip
 refine At.loop (σ := Nat) (fun K => K ≤ σ.ws.length) (fun K => [(0, .pointer (some ⟨p, 0, none⟩)), (3, v1), (4, .int .i64 (8 * (K : Int)))]) (fun K => [brow 5 v1 (wbytes ((viewWs σ.ws).take K ++ List.replicate ((viewWs σ.ws).length - K) 0)), RDev p γ ρ]) (fun K => σ.ws.length - K) 0 (Nat.zero_le _) (Sub.cons rfl (Sub.cons rfl (Sub.cons rfl Sub.nil))) (by rw [List.take_zero, List.nil_append, Nat.sub_zero, hxs]) ?_
 intro K hs
 have hxl : ((viewWs σ.ws).take K ++ List.replicate ((viewWs σ.ws).length - K) 0).length = σ.ws.length := by rw [List.length_append, List.length_take, List.length_replicate, hxs]; omega
 refine At.seq (tR (tM rfl rfl (tM rfl rfl (At.callK 1 rfl (fun w hw hr => rsize_k _ _ _ w hr) Tryz.call132 rfl rfl (tV (Val.bin rfl rfl rfl) rfl (tE ?_))))))
 refine At.cond rfl (fun h2 => ?_) (fun h2 => ?_)
 ·try simp only [hasB, isSizeB, sB] at h2
  have hK : K < σ.ws.length := by omega
  obtain ⟨wd, hk⟩ : ∃ wd, σ.ws[K]? = some wd := ⟨_, List.getElem?_eq_getElem hK⟩
  have hxk : (viewWs σ.ws)[K]? = some (nowW wd) := by unfold viewWs; rw [List.getElem?_map, hk]; rfl
  refine At.skipC (At.thenN (At.seq (At.block (tR (tM rfl rfl (tM rfl rfl (At.callK 1 rfl (fun w hw hr => rnow_s _ _ _ σ K wd w hsim hk hr) Tryz.call180 rfl rfl (tA rfl rfl (tE (At.region (tM rfl rfl (tM rfl rfl (tM rfl rfl ?_)))))))))))))
  refine At.call1 0 rfl (fun w hw hr => rput_r _ K _ (nowW wd) w (by rw [wbytes_length, hxl]; omega) (by rw [wbytes_length, hxl]; omega) hr) Tryz.call171 rfl rfl ?_
  simp only [sc0, scS]
  refine At.nil (At.blkN (At.thenN (At.region (tM rfl rfl ?_))))
  first | refine tV (Val.addI rfl rfl (by omega) (by omega)) rfl ?_ | refine tV (Val.bin rfl rfl rfl) rfl ?_
  refine tA rfl rfl (tE ?_)
  exact At.again (K + 1) (show K + 1 ≤ _ by omega) (by omega) (Sub.cons rfl (Sub.cons rfl (Sub.cons (congrArg (fun z => some (Value.int IntKind.i64 z)) (by omega)) Sub.nil))) (by rw [put8_set _ (by omega), take_set_zero hxk])
 ·try simp only [hasB, isSizeB, sB] at h2
  obtain rfl : K = σ.ws.length := by omega
  refine At.exitC (At.thenX (At.thenX (At.blkX (At.thenN (tR (tM rfl rfl (tA rfl rfl (tE (At.retC (At.ret1 (.inl rfl) rfl rfl rfl (fun w hw => ?_)))))))))))
  rw [← hxs, List.take_length, Nat.sub_self, List.replicate_zero, List.append_nil] at hw
  exact ⟨_, rfl, hw⟩
theorem rcrash_s (p : Nat) (γ : Rg) (ρ : Rs) (σ : Ds) (vc : Value) (cs : List Int) (w : World) (hsim : Sim σ ρ) (hwl : σ.ws.length ≤ 65536) (hst : ∀ u ∈ σ.ws, u.news.length ≤ 1099511627775) (hv : RdI w vc cs) (ho : Off vc (cs.map (Value.int .i64)) (feet [RDev p γ ρ])) (hd : (RDev p γ ρ).holds w) :
    RowK Tryz.prog 135 [.pointer (some ⟨p, 0, none⟩), vc] (RDev p γ ρ) 5 1 (wbytes (picked σ.ws (pkC σ.ws cs))).length ((wbytes (picked σ.ws (pkC σ.ws cs))).map bv) w := by
 refine enterRc hd Tryz.func135 rfl Tryz.ntmps135 rfl ?_
 obtain ⟨hQ, hg⟩ := RDev.facts hd
 have hln := hg.len
 have hps := hg.pos
 have hnw := hg.now
 have hsl := hsim.len
 have hxs : (picked σ.ws (pkC σ.ws cs)).length = σ.ws.length := picked_length ..
 simp only [envOf]
 refine tR (tA rfl rfl (tE (tR (tM rfl rfl (At.callK 0 rfl (fun w hw hr => rsize_k _ _ _ w hr) Tryz.call132 rfl rfl ?_)))))
 rw [show 64 * (ρ.ls.length : Int) = ((8 * σ.ws.length : Nat) : Int) from by have := hsim.len; omega]
 refine At.makeRowB (n := 8 * σ.ws.length) Tryz.underlying29 info_5 rfl rfl rfl rfl rfl (by omega) rfl (fun v1 => ?_)
 rw [← wbytes_zero]
 refine tA rfl rfl (tE (tR (tA rfl rfl (tE (At.seq (tR (tA rfl rfl (tE (At.block ?_)))))))))
 skip
 refine At.loop (σ := Nat) (fun K => K ≤ σ.ws.length) (fun K => [(0, .pointer (some ⟨p, 0, none⟩)), (1, vc), (5, v1), (6, .int .i64 ((dkc σ.ws K : Nat) : Int)), (7, .int .i64 (8 * (K : Int)))]) (fun K => [brow 5 v1 (wbytes ((picked σ.ws (pkC σ.ws cs)).take K ++ List.replicate ((picked σ.ws (pkC σ.ws cs)).length - K) 0)), RDev p γ ρ]) (fun K => σ.ws.length - K) 0 (Nat.zero_le _) (Sub.cons rfl (Sub.cons rfl (Sub.cons rfl (Sub.cons rfl (Sub.cons rfl Sub.nil))))) (by rw [List.take_zero, List.nil_append, Nat.sub_zero, hxs]) ?_
 intro K hs
 have hxl : ((picked σ.ws (pkC σ.ws cs)).take K ++ List.replicate ((picked σ.ws (pkC σ.ws cs)).length - K) 0).length = σ.ws.length := by rw [List.length_append, List.length_take, List.length_replicate, hxs]; omega
 have hdc := dkc_le σ.ws K
 refine At.seq (tR (tM rfl rfl (tM rfl rfl (At.callK 1 rfl (fun w hw hr => rsize_k _ _ _ w hr) Tryz.call132 rfl rfl (tV (Val.bin rfl rfl rfl) rfl (tE ?_))))))
 refine At.cond rfl (fun h2 => ?_) (fun h2 => ?_)
 ·try simp only [hasB, isSizeB, sB] at h2
  have hK : K < σ.ws.length := by omega
  obtain ⟨wd, hk⟩ : ∃ wd, σ.ws[K]? = some wd := ⟨_, List.getElem?_eq_getElem hK⟩
  have hnl := hst wd (List.mem_of_getElem? hk)
  refine At.skipC (At.thenN (At.seq (At.block (tR (tM rfl rfl (tM rfl rfl (At.callRKT 1 rfl (fun w hw hr => rword_s _ _ _ σ K wd w hsim hk hr) Tryz.call169 rfl rfl (fun v3 => (tM rfl rfl (tV (Val.extract rfl rfl) rfl (tV (Val.extract rfl rfl) rfl (tA rfl rfl (tA rfl rfl (tE ?_))))))))))))))
  refine At.join (σ := BitVec 64) (fun z => (picked σ.ws (pkC σ.ws cs))[K]? = some z) (fun z => [(0, .pointer (some ⟨p, 0, none⟩)), (1, vc), (5, v1), (7, .int .i64 (8 * (K : Int))), (6, .int .i64 ((dkc σ.ws (K + 1) : Nat) : Int)), (8, b64 z)]) (fun z => [rowR v1 5 1 (((wbytes ((picked σ.ws (pkC σ.ws cs)).take K ++ List.replicate ((picked σ.ws (pkC σ.ws cs)).length - K) 0))).length) (((wbytes ((picked σ.ws (pkC σ.ws cs)).take K ++ List.replicate ((picked σ.ws (pkC σ.ws cs)).length - K) 0))).map bv), RDev p γ (ρ)]) ?_ ?_
  ·refine tR (tM rfl rfl (tV (Val.lenRow (i := 0) Tryz.underlying98 rfl rfl) rfl (tV (Val.bin rfl rfl rfl) rfl (tE ?_))))
   refine At.cond rfl (fun h4 => ?_) (fun h4 => ?_)
   ·try simp only [hasB, isSizeB, sB] at h4
    have hn : wd.news ≠ [] := List.length_pos_iff.1 (by omega)
    have hdk := dkc_at hk hn
    refine tR (tA rfl rfl (tE ?_))
    refine At.join (σ := Int) (fun r => r = (match cs[dkc σ.ws K]? with | some c => restI c ((wd.news.length : Int) + 1) | none => 0) ∧ 0 ≤ r ∧ r ≤ wd.news.length) (fun r => [(0, .pointer (some ⟨p, 0, none⟩)), (1, vc), (5, v1), (7, .int .i64 (8 * (K : Int))), (6, .int .i64 ((dkc σ.ws K : Nat) : Int)), (8, b64 wd.old), (9, v3), (10, .int .i64 r)]) (fun r => [rowR v3 43 1 ((wd.news).length) ((wd.news).map b64), rowR v1 5 1 (((wbytes ((picked σ.ws (pkC σ.ws cs)).take K ++ List.replicate ((picked σ.ws (pkC σ.ws cs)).length - K) 0))).length) (((wbytes ((picked σ.ws (pkC σ.ws cs)).take K ++ List.replicate ((picked σ.ws (pkC σ.ws cs)).length - K) 0))).map bv), RDev p γ (ρ)]) ?_ ?_
    ·refine tR (tM rfl rfl (tM rfl rfl (tV (Val.lenRd hv Tryz.underlying63 rfl) rfl (tV (Val.bin rfl rfl rfl) rfl (tE ?_)))))
     refine At.cond rfl (fun h5 => ?_) (fun h5 => ?_)
     ·try simp only [hasB, isSizeB, sB] at h5
      refine At.region (tM rfl rfl (tM rfl rfl (At.idxI' hv ho Tryz.underlying63 Tryz.sizeOf3 rfl rfl (by omega) (by omega) rfl rfl (fun bx ox cx hcx hcc hox => ?_))))
      rw [Int.toNat_natCast] at hcx
      refine tV (Val.loadOld Tryz.isAgg3 rfl hcc hox) rfl (tM rfl rfl (tV (Val.lenRow (i := 0) Tryz.underlying98 rfl rfl) rfl ?_))
      first | refine tV (Val.addI rfl rfl (by omega) (by omega)) rfl ?_ | refine tV (Val.bin rfl rfl rfl) rfl ?_
      refine At.callP (fun w hw => rest_p cx ((wd.news.length : Int) + 1) w (by omega) (by omega)) Tryz.call170 rfl rfl (tA rfl rfl (tE ?_))
      exact At.meets _ ⟨by rw [hcx], restI_bd _ (by omega)⟩ (Sub.cons rfl (Sub.cons rfl (Sub.cons rfl (Sub.cons rfl (Sub.cons rfl (Sub.cons rfl (Sub.cons rfl (Sub.cons rfl Sub.nil)))))))) (List.Perm.refl _)
     ·try simp only [hasB, isSizeB, sB] at h5
      have hcx : cs[dkc σ.ws K]? = none := List.getElem?_eq_none (by omega)
      refine At.skipC (At.thenN ?_)
      exact At.meets 0 ⟨by rw [hcx], by omega, by omega⟩ (Sub.cons rfl (Sub.cons rfl (Sub.cons rfl (Sub.cons rfl (Sub.cons rfl (Sub.cons rfl (Sub.cons rfl (Sub.cons rfl Sub.nil)))))))) (List.Perm.refl _)
    ·intro r hs
     refine At.join (σ := Unit) (fun u => True) (fun u => [(0, .pointer (some ⟨p, 0, none⟩)), (1, vc), (5, v1), (7, .int .i64 (8 * (K : Int))), (6, .int .i64 ((dkc σ.ws K : Nat) : Int)), (8, b64 (pickC cs (dkc σ.ws K) wd))]) (fun u => [rowR v3 43 1 ((wd.news).length) ((wd.news).map b64), rowR v1 5 1 (((wbytes ((picked σ.ws (pkC σ.ws cs)).take K ++ List.replicate ((picked σ.ws (pkC σ.ws cs)).length - K) 0))).length) (((wbytes ((picked σ.ws (pkC σ.ws cs)).take K ++ List.replicate ((picked σ.ws (pkC σ.ws cs)).length - K) 0))).map bv), RDev p γ (ρ)]) ?_ ?_
     ·refine tR (tM rfl rfl (tV (Val.bin rfl rfl rfl) rfl (tE ?_)))
      refine At.cond rfl (fun h6 => ?_) (fun h6 => ?_)
      ·try simp only [hasB, isSizeB, sB] at h6
       refine At.region (tM rfl rfl (tM rfl rfl ?_))
       first | refine tV (Val.subI rfl rfl (by omega) (by omega)) rfl ?_ | refine tV (Val.bin rfl rfl rfl) rfl ?_
       obtain ⟨zv, hzv⟩ : ∃ zv, wd.news[(r - 1).toNat]? = some zv := ⟨_, List.getElem?_eq_getElem (by omega)⟩
       refine tV (Val.indexRow (i := 0) (r - 1).toNat (by omega) Tryz.underlying98 Tryz.sizeOf43 rfl rfl rfl (by omega) (by omega)) rfl ?_
       refine tV (Val.loadRow (i := 0) Tryz.isAgg43 rfl rfl (by rw [List.getElem?_map, hzv]; rfl)) rfl ?_
       refine tA rfl rfl (tE ?_)
       exact At.meets () trivial (Sub.cons rfl (Sub.cons rfl (Sub.cons rfl (Sub.cons rfl (Sub.cons rfl (Sub.cons (congrArg (fun z : BitVec 64 => some (b64 z)) (pick_new (c := r) (by omega) hs.1 hzv).symm) Sub.nil)))))) (List.Perm.refl _)
      ·try simp only [hasB, isSizeB, sB] at h6
       refine At.skipC (At.thenN ?_)
       exact At.meets () trivial (Sub.cons rfl (Sub.cons rfl (Sub.cons rfl (Sub.cons rfl (Sub.cons rfl (Sub.cons (congrArg (fun z : BitVec 64 => some (b64 z)) (pick_old (c := r) (by omega) hs.1).symm) Sub.nil)))))) (List.Perm.refl _)
     ·intro u hs
      refine At.region (tM rfl rfl ?_)
      first | refine tV (Val.addI rfl rfl (by omega) (by omega)) rfl ?_ | refine tV (Val.bin rfl rfl rfl) rfl ?_
      refine tA rfl rfl (At.nil (At.drop 0 ?_))
      simp only [ec0, ecS]
      refine At.thenN ?_
      exact At.meets (pickC cs (dkc σ.ws K) wd) (by rw [picked_new hdk, pkC_at hk]) (Sub.cons rfl (Sub.cons rfl (Sub.cons rfl (Sub.cons rfl (Sub.cons (congrArg (fun z => some (Value.int IntKind.i64 z)) (by rw [dkc_yes hk hn]; omega)) (Sub.cons rfl Sub.nil)))))) (List.Perm.refl _)
   ·try simp only [hasB, isSizeB, sB] at h4
    have hn : wd.news = [] := List.eq_nil_of_length_eq_zero (by omega)
    refine At.drop 0 ?_
    simp only [ec0, ecS]
    refine At.skipC (At.thenN ?_)
    exact At.meets wd.old (picked_old hk hn) (Sub.cons rfl (Sub.cons rfl (Sub.cons rfl (Sub.cons rfl (Sub.cons (congrArg (fun z => some (Value.int IntKind.i64 z)) (by rw [dkc_no hk hn])) (Sub.cons rfl Sub.nil)))))) (List.Perm.refl _)
  ·intro z hs
   have hxk := hs
   refine At.region (tM rfl rfl (tM rfl rfl (tM rfl rfl ?_)))
   refine At.call1 0 rfl (fun w hw hr => rput_r _ K _ (z) w (by rw [wbytes_length, hxl]; omega) (by rw [wbytes_length, hxl]; omega) hr) Tryz.call171 rfl rfl ?_
   simp only [sc0, scS]
   refine At.nil (At.blkN (At.thenN (At.region (tM rfl rfl ?_))))
   first | refine tV (Val.addI rfl rfl (by omega) (by omega)) rfl ?_ | refine tV (Val.bin rfl rfl rfl) rfl ?_
   refine tA rfl rfl (tE ?_)
   exact At.again (K + 1) (show K + 1 ≤ _ by omega) (by omega) (Sub.cons rfl (Sub.cons rfl (Sub.cons rfl (Sub.cons rfl (Sub.cons (congrArg (fun z => some (Value.int IntKind.i64 z)) (by omega)) Sub.nil))))) (by rw [put8_set _ (by omega), take_set_zero hxk])
 ·try simp only [hasB, isSizeB, sB] at h2
  obtain rfl : K = σ.ws.length := by omega
  refine At.exitC (At.thenX (At.thenX (At.blkX (At.thenN (tR (tM rfl rfl (tA rfl rfl (tE (At.retC (At.ret1 (.inl rfl) rfl rfl rfl (fun w hw => ?_)))))))))))
  rw [← hxs, List.take_length, Nat.sub_self, List.replicate_zero, List.append_nil] at hw
  exact ⟨_, rfl, hw⟩
end Go.Proofs.YtfchinibjhcejaaGreatDoor
namespace Go.Proofs.YtfchinibjhcejaaGreatDoor
open Go Go.Wk
def dtsAt (ws : List Wd) (k : Nat) : Dt := match ws[k]? with | some w => (8 * (k : Int), w.old, w.news) | none => (0, 0, [])
def dts (ws : List Wd) : List Dt := (dk ws).map (dtsAt ws)
theorem dtsAt_some {ws : List Wd} {k : Nat} {w : Wd} (h : ws[k]? = some w) : dtsAt ws k = (8 * (k : Int), w.old, w.news) := by unfold dtsAt; rw [h]
theorem dts_get {ws : List Wd} {K k : Nat} {w : Wd} (hK : (dk ws)[K]? = some k) (h : ws[k]? = some w) : (dts ws)[K]? = some (8 * (k : Int), w.old, w.news) := by
  unfold dts; rw [List.getElem?_map, hK]; show some (dtsAt ws k) = _; rw [dtsAt_some h]
theorem dts_length (ws : List Wd) : (dts ws).length = (dk ws).length := List.length_map ..
theorem dk_le (ws : List Wd) : (dk ws).length ≤ ws.length := Nat.le_trans (List.length_filter_le _ _) (by rw [List.length_range]; exact Nat.le_refl _)
theorem fst_snoc {ws : List Wd} {Q : List Dq} {K k : Nat} {w : Wd} {v : Value} (h : Q.map Prod.fst = (dts ws).take K) (hK : (dk ws)[K]? = some k) (hk : ws[k]? = some w) : (Q ++ [((8 * (k : Int), w.old, w.news), v)]).map Prod.fst = (dts ws).take (K + 1) := by
  rw [List.map_append, h, List.take_add_one, dts_get hK hk]; rfl
theorem fst_len {ws : List Wd} {Q : List Dq} {K : Nat} (h : Q.map Prod.fst = (dts ws).take K) (hK : K ≤ (dk ws).length) : Q.length = K := by
  have := congrArg List.length h
  rw [List.length_map, List.length_take, dts_length] at this; omega
theorem bs_98_0 (w : World) : (Instr.buildSlice 98 0 #[]).run Tryz.prog w = .ok (.slice (some ⟨w.heap.size, 0, none⟩) 0 0) (w.alloc (.cells [].toArray 43)) := by kernel_rfl
theorem clone_w (v : Value) (l : List (BitVec 64)) (w : World) (hv : RdW w v l) (hpos : 0 < l.length) (hl : l.length ≤ 1099511627776) :
    NewRow Tryz.prog 58 [v] tW 1 l.length (l.map b64) w := by
 refine enter (feet []) [] Tryz.func58 rfl Tryz.ntmps58 rfl ⟨by simp, by simp, by simp, Mod.refl _ _⟩ ?_
 obtain ⟨av, cv, hvs⟩ := rd_some hv hpos
 simp only [envOf]
 refine tR (tA rfl rfl (tE (At.seq (tR (tM rfl rfl (tV (Val.eqNilS (t := 98) Tryz.underlying98 (congrArg some hvs)) rfl (tE (At.condF rfl (At.skipC (At.thenN (tR (At.buildRow (fun a ha => by simp only [List.map_toArray, List.map_cons, List.map_nil]; try rfl) (bs_98_0 ) 1 rfl (by decide) rfl (fun v1 => ?_)))))))))))))
 change At _ _ (wrow 43 v1 (([] : List (BitVec 64))) :: _) _
 refine tM rfl rfl (At.appendRdW (i := 0) (by_ := 8) Tryz.underlying98 info_43 rfl rfl rfl rfl rfl rfl rfl hv (fun _ _ _ _ _ _ _ h => by simp [feet] at h) (by simp only [List.length_nil]; omega) (by simp only [List.length_nil]; omega) rfl (fun v2 => ?_))
 simp only [List.set_cons_zero, List.nil_append]
 refine tA rfl rfl (tE (At.retC (At.ret1 (.inl rfl) rfl rfl rfl (fun w hw => ?_))))
 exact ⟨_, rfl, hw⟩
theorem retDB {w w' : World} {p : Nat} {γ : Gh} {σ : Ds} {S : Nat → Prop} {v : Value} {Q : List Dq} {r : Res} (hw : Rep w S (star (newsR Q) :: drow v Q :: (devL p γ σ ++ [r])) w') : Rep w S [dbtR v Q, Dev p γ σ] w' := by
  have h1 := hw.toDbt
  have h2 : Rep w S (devL p γ σ ++ [dbtR v Q, r]) w' := h1.perm (List.perm_middle (l₁ := devL p γ σ) (a := dbtR v Q) (l₂ := [r])).symm
  exact (h2.shutS.perm (List.Perm.swap ..)).drop (List.Sublist.refl _ |>.cons _ |>.cons_cons _ |>.cons_cons _)
theorem doubts_k (p : Nat) (γ : Gh) (σ : Ds) (w : World) (hd : (Dev p γ σ).holds w) :
    DbtK Tryz.prog 30 [.pointer (some ⟨p, 0, none⟩)] (Dev p γ σ) (dts σ.ws) w := by
 refine enterV hd Tryz.func30 rfl Tryz.ntmps30 rfl ?_
 unfold devL
 have hgd := Dev.good hd
 have hln := hgd.len
 have hdl := dk_le σ.ws
 have hst := hgd.steps
 simp only [envOf]
 refine tR (tA rfl rfl (tE (tR (tA rfl rfl (tE (At.seq (tR (tM rfl rfl (At.callRKS (devL p γ σ) rfl (fun w hw hr => places_k p γ σ w hr) Tryz.call57 rfl rfl (fun v1 => (At.sink5 (tV (Val.lenRow (i := 5) Tryz.underlying63 rfl rfl) rfl (tM rfl rfl (At.nil (At.rowNil tDt 3 (At.starNil (At.thenN (At.block ?_))))))))))))))))))
 skip
 refine At.loop (σ := Nat × List Dq × Value) (fun s => s.1 ≤ (dk σ.ws).length ∧ s.2.1.map Prod.fst = (dts σ.ws).take s.1) (fun s => [(0, .pointer (some ⟨p, 0, none⟩)), (3, s.2.2), (8, v1), (9, .int .i64 ((dk σ.ws).length : Int)), (10, .int .i64 (s.1 : Int))]) (fun s => [star (newsR s.2.1), drow s.2.2 s.2.1, blk p tDv [γ.vo, .map (some γ.mb), .int .i64 (σ.steps : Int), .bool σ.armed, .int .i64 (σ.left : Int)], wrow tW γ.vo (olds σ.ws), mapR γ.mb (mk σ.ws γ.g), fam (dI σ.ws γ.g), factR (Dgood σ), rowR v1 3 1 (dkeys σ.ws).length ((dkeys σ.ws).map (Value.int .i64))]) (fun s => (dk σ.ws).length - s.1) (0, [], .slice none 0 0) ⟨Nat.zero_le _, rfl⟩ (Sub.cons rfl (Sub.cons rfl (Sub.cons rfl (Sub.cons (congrArg (fun z => some (Value.int IntKind.i64 z)) (by rw [dkeys, List.length_map])) (Sub.cons rfl Sub.nil))))) (List.Perm.refl _) ?_
 intro s hs
 obtain ⟨K, Q, vd⟩ := s
 dsimp only at hs ⊢
 have hQl := fst_len hs.2 hs.1
 refine tR (tV (Val.bin rfl rfl rfl) rfl (tE (At.seq ?_)))
 refine At.cond rfl (fun h2 => ?_) (fun h2 => ?_)
 ·try simp only [hasB, isSizeB, sB] at h2
  have hK : K < (dk σ.ws).length := by omega
  obtain ⟨k, hkK⟩ : ∃ k, (dk σ.ws)[K]? = some k := ⟨_, List.getElem?_eq_getElem hK⟩
  obtain ⟨wd, hk, hn⟩ := mem_dk.1 (List.mem_of_getElem? hkK)
  have hk0 := (List.getElem?_eq_some_iff.1 hk).1
  have hwd := hgd.word wd (List.mem_of_getElem? hk)
  refine At.skipC (At.thenN (At.seq (At.block (tR ?_))))
  refine tV (Val.indexRow (i := 7) K (by omega) Tryz.underlying63 Tryz.sizeOf3 rfl rfl rfl (by omega) (by rw [dkeys, List.length_map]; omega)) rfl ?_
  refine tV (Val.loadRow (i := 7) (u := .int .i64 (8 * (k : Int))) Tryz.isAgg3 rfl rfl (by rw [List.getElem?_map, dkeys, List.getElem?_map, hkK]; rfl)) rfl ?_
  refine tA rfl rfl (tE (tR (tM rfl rfl (tV (Val.nilCheck rfl) rfl (tV (Val.field 1 rfl fo_111_1 rfl) rfl (tV (Val.load (i := 2) Tryz.isAgg109 rfl rfl rfl) rfl (tM rfl rfl (tV (Val.look (i := 4) Tryz.underlying109 Tryz.underlying3 Tryz.zeroValue113 rfl rfl rfl) rfl ?_))))))))
  rw [mk_at, mkN_some hk hn]
  refine tV (Val.nilCheck rfl) rfl (tV (Val.field 0 rfl fo_115_0 rfl) rfl (tV (Val.loadDbt (i := 5) Tryz.isAgg98 rfl rfl hk hn rfl) rfl (At.callN (fun w hw => clone_w _ _ w (dbt_win hw (i := 5) rfl hk hn) (List.length_pos_iff.2 hn) (by omega)) Tryz.call58 rfl rfl (fun v3 => (tA rfl rfl (At.nil (At.rowIs (i := 0) rfl (fun A4 c5 hv => ?_))))))))
  subst hv
  refine At.thenN (At.region (tM rfl rfl (tM rfl rfl (tM rfl rfl (tV (Val.nilCheck rfl) rfl (tV (Val.field 0 rfl fo_111_0 rfl) rfl (tV (Val.load (i := 3) Tryz.isAgg98 rfl rfl rfl) rfl (tM rfl rfl (tV (Val.quoI rfl rfl (by omega) (by omega) (by decide)) rfl ?_)))))))))
  rw [show 8 * (k : Int) / 8 = (k : Int) from by omega]
  refine tV (Val.indexRow (i := 4) k (by omega) Tryz.underlying98 Tryz.sizeOf43 rfl rfl rfl (by omega) (by rw [olds_length]; omega)) rfl ?_
  refine tV (Val.loadRow (i := 4) Tryz.isAgg43 rfl rfl (by rw [List.getElem?_map, olds_at hk]; rfl)) rfl ?_
  refine tM rfl rfl ?_
  refine tV (Val.build (fun a ha => by simp only [List.map_toArray, List.map_cons, List.map_nil, ha.eval (x := (.tmp 25)) rfl, ha.eval (x := (.tmp 33)) rfl, ha.eval (x := (.tmp 34)) rfl] <;> rfl) (bld_121_0_1_2 _ _ _ _ _ )) rfl (At.buildSl (fun a ha => by simp only [List.map_toArray, List.map_cons, List.map_nil, ha.eval (x := (.tmp 35)) rfl]; try rfl) (bs_68_1 _ _ _ _ _ ) rfl (fun b6 => ?_))
  refine At.appendD1 (i := 3) (j := 0) (by_ := 40) (c := ((8 * (k : Int), wd.old, wd.news), (.slice A4 (wd.news.length) c5))) Tryz.underlying68 info_121 rfl rfl rfl rfl rfl rfl rfl rfl rfl rfl (by rw [hQl]; omega) (by rw [hQl]; omega) rfl (fun v7 => ?_)
  simp only [sc0, scS]
  refine At.drop 0 ?_
  simp only [ec0, ecS]
  refine At.starPush (tA rfl rfl (At.nil (At.blkN (At.thenN (At.region ?_)))))
  first | refine tV (Val.addI rfl rfl (by omega) (by omega)) rfl ?_ | refine tV (Val.bin rfl rfl rfl) rfl ?_
  refine tM rfl rfl (tE ?_)
  exact At.again (K + 1, Q ++ [((8 * (k : Int), wd.old, wd.news), (.slice A4 (wd.news.length) c5))], v7) ⟨(show K + 1 ≤ _ by omega), fst_snoc hs.2 hkK hk⟩ (by dsimp only; omega) (Sub.cons rfl (Sub.cons rfl (Sub.cons rfl (Sub.cons rfl (Sub.cons (congrArg (fun z => some (Value.int IntKind.i64 z)) (by omega)) Sub.nil))))) (by dsimp only; rw [newsR_snoc])
 ·try simp only [hasB, isSizeB, sB] at h2
  obtain rfl : K = (dk σ.ws).length := by omega
  refine At.exitC (At.thenX (At.thenX (At.blkX (At.thenN (tR (tM rfl rfl (tA rfl rfl (tE (At.retC (At.ret1 (.inl rfl) rfl rfl rfl (fun w hw => ?_)))))))))))
  exact ⟨_, _, rfl, by rw [hs.2, List.take_of_length_le (by rw [dts_length]; exact Nat.le_refl _)], retDB hw⟩
end Go.Proofs.YtfchinibjhcejaaGreatDoor
namespace Go.Proofs.YtfchinibjhcejaaGreatDoor
open Go Go.Wk
theorem wbytes_byte {xs : List (BitVec 64)} {k b : Nat} {x : BitVec 64} (h : xs[k]? = some x) (hb : b < 8) : (wbytes xs)[8 * k + b]? = some (UInt8.ofNat (x.toNat / 256 ^ b)) := by
  have := wbytes_take h
  have h2 : (((wbytes xs).drop (8 * k)).take 8)[b]? = (wbytes xs)[8 * k + b]? := by rw [List.getElem?_take, if_pos hb, List.getElem?_drop]
  rw [← h2, this]; exact le_get 8 _ b hb
theorem take_part {xs : List (BitVec 64)} {a c r m : Nat} {x : BitVec 64} (h : xs[(a + c) / 8]? = some x) (hr : r = (a + c) % 8) (hm : r + m ≤ 8) : ((wbytes xs).drop a).take (c + m) = ((wbytes xs).drop a).take c ++ ((le8 x).drop r).take m := by
  subst hr
  rw [List.take_add]
  congr 1
  rw [List.drop_drop]
  apply List.ext_getElem?
  intro i
  rw [List.getElem?_take, List.getElem?_take]
  split
  · rename_i hi
    rw [List.getElem?_drop, List.getElem?_drop, show a + c + i = 8 * ((a + c) / 8) + ((a + c) % 8 + i) by omega, wbytes_byte h (by omega)]
    exact (le_get 8 _ _ (by omega)).symm
  · rfl
theorem At.appendPart {P : Program} {Γ : Ctx} {E : Env} {H : List Res} {ops : Array Oper} {Q : Exit → Act → World → Prop} {rest : List Oper} {d : Nat} {ty : TypeId} {pos : String} {after : Array Edge} {x y : Operand} {v : Value} {i j t e by_ b U r m c : Nat} {ti : TypeInfo} {z : Value} {l : List UInt8} {w8 : List UInt8} (ht : P.underlying t = some (.slice e)) (hti : P.info? e = some ti) (hz : ti.zero = some z) (hsize : ti.size = 1) (hby : ti.bytes = by_) (hzs : z.cells.size = 1)
    (hx : ev E x = some v) (hy : ev E y = some (.slice (some ⟨b, r, none⟩) m c)) (hi : H[i]? = some (brow e v l)) (hj : H[j]? = some (blk b U (w8.map bv))) (hm : r + m ≤ w8.length) (h63 : (l.length + m) * by_ ≤ 140737488355328) (h64 : l.length + m ≤ 140737488355328) (hn : Nat.blt d Γ.n = true)
    (k : ∀ v', At Γ ((d, v') :: E) (H.set i (brow e v' (l ++ (w8.drop r).take m))) (wpList P ops Q rest)) :
    At Γ E H (wpList P ops Q ({ dst := some d, op := .call { callee := .builtin .append, args := #[x, y], argTypes := #[t, t] }, type := ty, pos, after, guard := none } :: rest)) :=
  At.append (i := i) (ys := ((w8.drop r).take m).map bv) ht hti hz hsize hby hzs rfl hx hy hi (by rw [List.length_map, List.length_take, List.length_drop]; omega) (fun w hw j' u hj' => by
      refine ((hw.blk hj).cell (r + j')).trans ?_
      rw [List.getElem?_map, List.getElem?_take] at hj'
      split at hj'
      · rw [List.getElem?_drop] at hj'; rw [List.getElem?_map]; exact hj'
      · cases hj') (bv_one _) h63 h64 hn fun v' => by
    have := k v'
    have e1 : ((w8.drop r).take m).length = m := by rw [List.length_take, List.length_drop]; omega
    simpa only [brow, List.map_append, List.length_append, e1] using this
theorem read_s (p : Nat) (γ : Gh) (σ : Ds) (a n : Nat) (w : World) (han : a + n ≤ 8 * σ.ws.length) (hd : (Dev p γ σ).holds w) :
    RowKT Tryz.prog 83 [.pointer (some ⟨p, 0, none⟩), .int .i64 (a : Int), .int .i64 (n : Int)] (Dev p γ σ) (fun v' => .tuple #[v', .int .i64 0]) 5 1 (((wbytes (viewWs σ.ws)).drop a).take n).length ((((wbytes (viewWs σ.ws)).drop a).take n).map bv) w := by
 refine enterVc hd Tryz.func83 rfl Tryz.ntmps83 rfl ?_
 have hgd := Dev.good hd
 have hln := hgd.len
 simp only [envOf]
 refine tR (tA rfl rfl (tA rfl rfl (tE (At.seq (tR (tM rfl rfl (tM rfl rfl (tM rfl rfl (At.callK 0 rfl (fun w hw hr => has_k _ _ _ _ _ w hr) Tryz.call115 rfl rfl (tV (Val.not rfl) rfl (tE ?_)))))))))))
 refine At.cond rfl (fun h1 => ?_) (fun h1 => ?_)
 ·try simp only [hasB, isSizeB, sB] at h1
  omega
 ·try simp only [hasB, isSizeB, sB] at h1
  refine At.skipC (At.thenN (tR (tM rfl rfl (At.makeRow0B (c := n) Tryz.underlying29 info_5 rfl rfl rfl rfl rfl (by omega) rfl (fun v2 => (tA rfl rfl (tE (tR (At.alloc zero_148 zc_148 rfl (fun b3 => (tE (At.seq (tR (tM rfl rfl (tA rfl rfl (tE (At.block ?_)))))))))))))))))
  skip
  refine At.loop (σ := (Nat × Value) × List UInt8) (fun s => s.1.1 ≤ n ∧ s.2.length = 8) (fun s => [(0, .pointer (some ⟨p, 0, none⟩)), (1, .int .i64 (a : Int)), (2, .int .i64 (n : Int)), (8, s.1.2), (9, .pointer (some ⟨b3, 0, none⟩)), (10, .int .i64 ((a + s.1.1 : Nat) : Int))]) (fun s => [blk b3 148 (s.2.map bv), brow 5 s.1.2 (((wbytes (viewWs σ.ws)).drop a).take s.1.1), Dev p γ σ]) (fun s => n - s.1.1) ((0, v2), zs 8) ⟨Nat.zero_le _, rfl⟩ (Sub.cons rfl (Sub.cons rfl (Sub.cons rfl (Sub.cons rfl (Sub.cons rfl (Sub.cons rfl Sub.nil)))))) (by dsimp only; rw [zs_bv, List.take_zero]) ?_
  intro s hs
  obtain ⟨⟨c, vr⟩, w8⟩ := s
  dsimp only at hs ⊢
  obtain ⟨hcn, hw8⟩ := hs
  refine At.seq (tR (tM rfl rfl (tM rfl rfl (tM rfl rfl ?_))))
  first | refine tV (Val.addI rfl rfl (by omega) (by omega)) rfl ?_ | refine tV (Val.bin rfl rfl rfl) rfl ?_
  refine tV (Val.bin rfl rfl rfl) rfl (tE ?_)
  refine At.cond rfl (fun h4 => ?_) (fun h4 => ?_)
  ·try simp only [hasB, isSizeB, sB] at h4
   have hc : c < n := by omega
   obtain ⟨wd, hk⟩ : ∃ wd, σ.ws[(a + c) / 8]? = some wd := ⟨_, List.getElem?_eq_getElem (by omega)⟩
   have hv0 : (viewWs σ.ws)[(a + c) / 8]? = some (nowW wd) := by unfold viewWs; rw [List.getElem?_map, hk]; rfl
   obtain ⟨r, hr⟩ : ∃ r, r = (a + c) % 8 := ⟨_, rfl⟩
   have hr8 : r < 8 := by omega
   refine At.skipC (At.thenN (At.block (At.seq (At.tail 7 rfl (by decide +kernel) ?_))))
   simp only [List.take_succ_cons, List.take_zero, List.drop_succ_cons, List.drop_zero]
   refine qV (Val.cutArr (b := b3) (o := 0) 0 8 0 8 8 Tryz.underlying148 Tryz.sizeOf5 rfl rfl rfl (by decide) (by decide) rfl rfl rfl) rfl (qM rfl rfl (qM rfl rfl (qM rfl rfl ?_)))
   first | refine qV (Val.remI rfl rfl (by omega) (by decide)) rfl ?_ | refine qV (Val.rem rfl rfl (by decide)) rfl ?_
   refine qV (Val.subI rfl rfl (by omega) (by omega)) rfl ?_
   rw [show ((a + c : Nat) : Int) - ((a + c : Nat) : Int) % 8 = 8 * (((a + c) / 8 : Nat) : Int) from by omega]
   refine QAt.callK 2 rfl (fun w hw hr => now_k _ _ _ ((a + c) / 8) wd w hk hr) Tryz.call116 rfl rfl (QAt.fin ?_)
   refine At.call1 0 rfl (fun w hw hr => putW_b b3 148 (w8.map bv) (nowW wd) w (by rw [List.length_map]; exact hw8) hr) Tryz.call94 rfl rfl ?_
   simp only [sc0, scS]
   refine tE (tR (tM rfl rfl (tV (Val.remI rfl rfl (by omega) (by decide)) rfl ?_)))
   rw [show ((a + c : Nat) : Int) % 8 = (r : Int) from by omega]
   refine tV (Val.cutArr (b := b3) (o := 0) r 8 r (8 - r) (8 - r) Tryz.underlying148 Tryz.sizeOf5 rfl ⟨_, _, rfl, by omega, by omega⟩ rfl (by omega) (by omega) (by rw [if_neg (by omega)]; omega) rfl rfl) rfl (tA rfl rfl (tE ?_))
   refine At.join (σ := Nat) (fun m => m = min (8 - r) (n - c)) (fun m => [(0, .pointer (some ⟨p, 0, none⟩)), (1, .int .i64 (a : Int)), (2, .int .i64 (n : Int)), (8, vr), (9, .pointer (some ⟨b3, 0, none⟩)), (10, .int .i64 ((a + c : Nat) : Int)), (11, .slice (some ⟨b3, r, none⟩) m (8 - r))]) (fun m => [blk b3 148 ((le8 (nowW wd)).map bv), rowR vr 5 1 (((((wbytes (viewWs σ.ws)).drop a).take c)).length) (((((wbytes (viewWs σ.ws)).drop a).take c)).map bv), Dev p γ (σ)]) ?_ ?_
   ·refine tR (tM rfl rfl (tV (Val.len (bt := #[]) Tryz.underlying29 rfl) rfl (tM rfl rfl (tM rfl rfl ?_))))
    first | refine tV (Val.addI rfl rfl (by omega) (by omega)) rfl ?_ | refine tV (Val.bin rfl rfl rfl) rfl ?_
    refine tM rfl rfl ?_
    first | refine tV (Val.subI rfl rfl (by omega) (by omega)) rfl ?_ | refine tV (Val.bin rfl rfl rfl) rfl ?_
    refine tV (Val.bin rfl rfl rfl) rfl (tE ?_)
    refine At.cond rfl (fun h5 => ?_) (fun h5 => ?_)
    ·try simp only [hasB, isSizeB, sB] at h5
     refine At.region (tM rfl rfl (tM rfl rfl (tM rfl rfl ?_)))
     first | refine tV (Val.addI rfl rfl (by omega) (by omega)) rfl ?_ | refine tV (Val.bin rfl rfl rfl) rfl ?_
     refine tM rfl rfl ?_
     first | refine tV (Val.subI rfl rfl (by omega) (by omega)) rfl ?_ | refine tV (Val.bin rfl rfl rfl) rfl ?_
     refine tV (Val.cutSl (b := b3) (o := r) 0 (n - c) r (n - c) (8 - r) Tryz.underlying29 Tryz.sizeOf5 rfl rfl ⟨_, _, rfl, by omega, by omega⟩ (by omega) (by omega) (by split <;> omega) rfl rfl) rfl (tA rfl rfl (tE ?_))
     exact At.meets _ (by omega) (Sub.cons rfl (Sub.cons rfl (Sub.cons rfl (Sub.cons rfl (Sub.cons rfl (Sub.cons rfl (Sub.cons rfl Sub.nil))))))) (List.Perm.refl _)
    ·try simp only [hasB, isSizeB, sB] at h5
     refine At.skipC (At.thenN ?_)
     exact At.meets _ (by omega) (Sub.cons rfl (Sub.cons rfl (Sub.cons rfl (Sub.cons rfl (Sub.cons rfl (Sub.cons rfl (Sub.cons rfl Sub.nil))))))) (List.Perm.refl _)
   ·intro m hs
    have hm8 : r + m ≤ 8 := by omega
    have hm1 : 1 ≤ m := by omega
    refine tR (tM rfl rfl (tM rfl rfl ?_))
    refine At.appendPart (i := 1) (j := 0) (by_ := 1) (w8 := le8 (nowW wd)) Tryz.underlying29 info_5 rfl rfl rfl rfl rfl rfl rfl rfl (by rw [le_length]; exact hm8) (by rw [List.length_take]; omega) (by rw [List.length_take]; omega) rfl (fun v6 => ?_)
    simp only [sc0, scS]
    refine tA rfl rfl (tE (At.region (tM rfl rfl (tM rfl rfl (tV (Val.len (bt := #[]) Tryz.underlying29 rfl) rfl ?_)))))
    first | refine tV (Val.addI rfl rfl (by omega) (by omega)) rfl ?_ | refine tV (Val.bin rfl rfl rfl) rfl ?_
    refine tA rfl rfl (At.nil (At.blkN (At.thenN ?_)))
    exact At.again ((c + m, v6), le8 (nowW wd)) ⟨(show c + m ≤ n by omega), le_length 8 _⟩ (by dsimp only; omega) (Sub.cons rfl (Sub.cons rfl (Sub.cons rfl (Sub.cons rfl (Sub.cons rfl (Sub.cons (congrArg (fun z => some (Value.int IntKind.i64 z)) (by dsimp only; omega)) Sub.nil)))))) (by dsimp only; rw [take_part hv0 hr hm8])
  ·try simp only [hasB, isSizeB, sB] at h4
   obtain rfl : c = n := by omega
   refine At.exitC (At.thenX (At.thenX (At.blkX (At.thenN (tR (tM rfl rfl (tA rfl rfl (tA rfl rfl (tE (At.retC (At.ret2 (.inl rfl) rfl rfl rfl rfl (fun w hw => ?_))))))))))))
   exact ⟨_, rfl, hw.drop (List.Sublist.refl _ |>.cons _)⟩
end Go.Proofs.YtfchinibjhcejaaGreatDoor
namespace Go.Proofs.YtfchinibjhcejaaGreatDoor
open Go Go.Wk
theorem dkc_line {ws : List Wd} {k : Nat} : ∀ j, (∀ i, i < j → ∃ w, ws[k + i]? = some w ∧ w.news = []) → dkc ws (k + j) = dkc ws k
  | 0, _ => rfl
  | j + 1, h => by
    obtain ⟨w, h1, h2⟩ := h j (Nat.lt_succ_self j)
    rw [← Nat.add_assoc, dkc_no h1 h2, dkc_line j (fun i hi => h i (by omega))]
theorem Sim.noPuts {σ : Ds} {ρ : Rs} (h : Sim σ ρ) {k : Nat} {l : Rl} (hk : ρ.ls[k]? = some l) (hp : l.puts = []) {j : Nat} (hj : j < 8) : ∃ w, σ.ws[8 * k + j]? = some w ∧ w.news = [] := by
  obtain ⟨_, _, _, _, _, h6⟩ := h.line k l hk
  obtain ⟨v0, w, _, g2, A, B, C, hP, _, _, _, _, hn, _⟩ := h6 j hj
  refine ⟨w, g2, ?_⟩
  rw [hp] at hP
  have hP' : A ++ (B ++ C) = [] := hP.symm
  have := List.append_eq_nil_iff.1 hP'
  rw [hn, this.2]; rfl
theorem fst_step {ws : List Wd} {Q : List Dq} {K : Nat} {w : Wd} {v : Value} (h : Q.map Prod.fst = (dts ws).take (dkc ws K)) (hk : ws[K]? = some w) (hn : w.news ≠ []) : (Q ++ [((8 * (K : Int), w.old, w.news), v)]).map Prod.fst = (dts ws).take (dkc ws (K + 1)) := by
  rw [dkc_yes hk hn]; exact fst_snoc h (dkc_at hk hn) hk
theorem fst_lenK {ws : List Wd} {Q : List Dq} {K : Nat} (h : Q.map Prod.fst = (dts ws).take (dkc ws K)) : Q.length ≤ K := by
  have := congrArg List.length h
  rw [List.length_map, List.length_take] at this
  have := dkc_le ws K
  omega
theorem rdoubts_s (p : Nat) (γ : Rg) (ρ : Rs) (σ : Ds) (w : World) (hsim : Sim σ ρ) (hwl : σ.ws.length ≤ 65536) (hd : (RDev p γ ρ).holds w) :
    DbtK Tryz.prog 158 [.pointer (some ⟨p, 0, none⟩)] (RDev p γ ρ) (dts σ.ws) w := by
 refine enterRc hd Tryz.func158 rfl Tryz.ntmps158 rfl ?_
 obtain ⟨hQ, hg⟩ := RDev.facts hd
 have hln := hg.len
 have hps := hg.pos
 have hnw := hg.now
 have hsl := hsim.len
 have h8 := first8_of hQ hg
 have hQl : γ.Q.length = ρ.ls.length := by rw [← hQ, List.length_map]
 simp only [envOf]
 refine tR (tA rfl rfl (tE (tR (tA rfl rfl (At.nil (At.rowNil tDt 3 (At.starNil (At.bring 2 rfl ?_))))))))
 simp only [ec0, ecS]
 refine At.thenN (At.seq (tR (tA rfl rfl (tE (At.block ?_)))))
 skip
 refine At.loop (σ := Nat × List Dq × Value) (fun s => s.1 ≤ ρ.ls.length ∧ s.2.1.map Prod.fst = (dts σ.ws).take (dkc σ.ws (8 * s.1))) (fun s => [(0, .pointer (some ⟨p, 0, none⟩)), (3, s.2.2), (4, .int .i64 (s.1 : Int))]) (fun s => [RDev p γ ρ, star (newsR s.2.1), drow s.2.2 s.2.1]) (fun s => ρ.ls.length - s.1) (0, [], .slice none 0 0) ⟨Nat.zero_le _, rfl⟩ (Sub.cons rfl (Sub.cons rfl (Sub.cons rfl Sub.nil))) (List.Perm.refl _) ?_
 intro s hs
 obtain ⟨i, Q, vd⟩ := s
 dsimp only at hs ⊢
 refine At.seq (At.seq (At.openS 0 rfl ?_))
 simp only [rdevL, List.cons_append, List.nil_append, ec0, ecS]
 refine At.region (tM rfl rfl (tM rfl rfl (tV (Val.nilCheck rfl) rfl (tV (Val.field 0 rfl fo_193_0 rfl) rfl (tV (Val.load (i := 0) Tryz.isAgg191 rfl rfl rfl) rfl (tV (Val.lenRow (i := 1) Tryz.underlying191 rfl rfl) rfl (tV (Val.bin rfl rfl rfl) rfl (At.nil (At.shutS (L := rdevL p γ ρ) (At.thenN ?_))))))))))
 refine At.cond rfl (fun h1 => ?_) (fun h1 => ?_)
 ·try simp only [hasB, isSizeB, sB] at h1
  have hi : i < ρ.ls.length := by omega
  obtain ⟨q, hq⟩ : ∃ q, γ.Q[i]? = some q := ⟨_, List.getElem?_eq_getElem (by omega)⟩
  have hlq := line_at hQ hq
  refine At.skipC (At.thenN (At.seq (At.block (tR (tA rfl rfl (tE (At.block ?_)))))))
  skip
  refine At.loop (σ := Nat × List Dq × Value) (fun s => s.1 ≤ 8 ∧ s.2.1.map Prod.fst = (dts σ.ws).take (dkc σ.ws (8 * i + s.1))) (fun s => [(0, .pointer (some ⟨p, 0, none⟩)), (3, s.2.2), (4, .int .i64 (i : Int)), (5, .int .i64 (s.1 : Int))]) (fun s => [RDev p γ ρ, star (newsR s.2.1), drow s.2.2 s.2.1]) (fun s => 8 - s.1) (0, Q, vd) ⟨Nat.zero_le _, hs.2⟩ (Sub.cons rfl (Sub.cons rfl (Sub.cons rfl (Sub.cons rfl Sub.nil)))) (List.Perm.refl _) ?_
  intro s hs2
  obtain ⟨j, Q2, vd2⟩ := s
  dsimp only at hs2 ⊢
  have hQl2 := fst_lenK hs2.2
  refine At.seq (At.seq (At.openS 0 rfl ?_))
  simp only [rdevL, List.cons_append, List.nil_append, ec0, ecS]
  refine At.region (tM rfl rfl (tV (Val.bin rfl rfl rfl) rfl (At.weaken [(0, _), (3, _), (4, _), (5, _), (18, _)] (Sub.cons rfl (Sub.cons rfl (Sub.cons rfl (Sub.cons rfl (Sub.cons rfl Sub.nil))))) ?_)))
  refine At.boolMeet 12 30 (decide (j < 8 ∧ 0 < q.1.puts.length)) ?_ ?_
  ·simp only [List.take_succ_cons, List.take_zero]
   refine tM rfl rfl ?_
   refine At.split (t := 19) rfl (fun h2 => ?_) (fun h2 => ?_)
   ·try simp only [hasB, isSizeB, sB] at h2
    refine At.yes rfl rfl (tM rfl rfl (At.yes rfl rfl (tV (Val.nilCheck rfl) rfl (At.yes rfl rfl (tV (Val.field 0 rfl fo_193_0 rfl) rfl (At.yes rfl rfl (tV (Val.load (i := 0) Tryz.isAgg191 rfl rfl rfl) rfl (At.yes rfl rfl (tM rfl rfl (At.yes rfl rfl (tV (Val.indexRow (i := 1) (i * 10) (by omega) Tryz.underlying191 Tryz.sizeOf190 rfl rfl rfl (by omega) (by omega)) rfl (At.yes rfl rfl (tV (Val.field ((i * 10 + 8)) rfl fo_190_1 rfl) rfl (At.yes rfl rfl (tV (Val.loadRow (i := 1) Tryz.isAgg188 rfl rfl (lC_puts h8 hq)) rfl (At.yes rfl rfl (tV (Val.lenO (fam_puts (i := 2) rfl hq) (by decide) Tryz.underlying188 rfl) rfl (At.yes rfl rfl (tV (Val.bin rfl rfl rfl) rfl (tV (Val.pickT rfl rfl) rfl (At.nil ?_)))))))))))))))))))))
    exact At.boolEnd rfl (by apply Bool.eq_iff_iff.2; (simp only [decide_eq_true_eq, Bool.false_eq_true, false_iff, true_iff, gt_iff_lt, ge_iff_le]) <;> omega) (by repeat (first | exact Sub.nil | refine Sub.cons rfl ?_))
   ·try simp only [hasB, isSizeB, sB] at h2
    refine At.no rfl rfl rfl rfl (At.no rfl rfl rfl rfl (At.no rfl rfl rfl rfl (At.no rfl rfl rfl rfl (At.no rfl rfl rfl rfl (At.no rfl rfl rfl rfl (At.no rfl rfl rfl rfl (At.no rfl rfl rfl rfl (At.no rfl rfl rfl rfl (At.no rfl rfl rfl rfl (tV (Val.pickF rfl rfl) rfl (At.nil ?_)))))))))))
    exact At.boolEnd rfl (by apply Bool.eq_iff_iff.2; (simp only [decide_eq_true_eq, Bool.false_eq_true, false_iff, true_iff, gt_iff_lt, ge_iff_le]) <;> omega) (by repeat (first | exact Sub.nil | refine Sub.cons rfl ?_))
  ·simp only [List.drop_succ_cons, List.drop_zero]
   refine At.nil (At.shutS (L := rdevL p γ ρ) (At.thenN ?_))
   refine At.cond rfl (fun h3 => ?_) (fun h3 => ?_)
   ·try simp only [hasB, isSizeB, sB] at h3
    have hj : j < 8 := by omega
    obtain ⟨wd, hk⟩ : ∃ wd, σ.ws[8 * i + j]? = some wd := ⟨_, List.getElem?_eq_getElem (by omega)⟩
    refine At.skipC (At.thenN (At.seq (At.block (tR (tM rfl rfl (tM rfl rfl ?_))))))
    first | refine tV (Val.mulI rfl rfl (by omega) (by omega)) rfl ?_ | refine tV (Val.bin rfl rfl rfl) rfl ?_
    refine tM rfl rfl ?_
    first | refine tV (Val.mulI rfl rfl (by omega) (by omega)) rfl ?_ | refine tV (Val.bin rfl rfl rfl) rfl ?_
    refine tV (Val.addI rfl rfl (by omega) (by omega)) rfl ?_
    rw [show 64 * (i : Int) + 8 * (j : Int) = 8 * ((8 * i + j : Nat) : Int) from by omega]
    refine At.callRKT 0 rfl (fun w hw hr => rword_s _ _ _ σ (8 * i + j) wd w hsim hk hr) Tryz.call169 rfl rfl (fun v4 => (tM rfl rfl (tV (Val.extract rfl rfl) rfl (tV (Val.extract rfl rfl) rfl (tA rfl rfl (tA rfl rfl (tE (tR (tM rfl rfl (tV (Val.lenRow (i := 0) Tryz.underlying98 rfl rfl) rfl (tV (Val.bin rfl rfl rfl) rfl (tE ?_))))))))))))
    refine At.cond rfl (fun h5 => ?_) (fun h5 => ?_)
    ·try simp only [hasB, isSizeB, sB] at h5
     have hn : wd.news ≠ [] := List.length_pos_iff.1 (by omega)
     refine At.rowIs (i := 0) rfl (fun A6 c7 hv => ?_)
     subst hv
     refine At.region (tM rfl rfl (tM rfl rfl ?_))
     first | refine tV (Val.mulI rfl rfl (by omega) (by omega)) rfl ?_ | refine tV (Val.bin rfl rfl rfl) rfl ?_
     refine tM rfl rfl ?_
     first | refine tV (Val.mulI rfl rfl (by omega) (by omega)) rfl ?_ | refine tV (Val.bin rfl rfl rfl) rfl ?_
     refine tV (Val.addI rfl rfl (by omega) (by omega)) rfl ?_
     rw [show 64 * (i : Int) + 8 * (j : Int) = 8 * ((8 * i + j : Nat) : Int) from by omega]
     refine tM rfl rfl (tM rfl rfl ?_)
     refine tV (Val.build (fun a ha => by simp only [List.map_toArray, List.map_cons, List.map_nil, ha.eval (x := (.tmp 51)) rfl, ha.eval (x := (.tmp 52)) rfl, ha.eval (x := (.tmp 53)) rfl] <;> rfl) (bld_121_0_1_2 _ _ _ _ _ )) rfl (At.buildSl (fun a ha => by simp only [List.map_toArray, List.map_cons, List.map_nil, ha.eval (x := (.tmp 54)) rfl]; try rfl) (bs_68_1 _ _ _ _ _ ) rfl (fun b8 => (At.appendD1 (i := 4) (j := 0) (by_ := 40) (c := ((8 * ((8 * i + j : Nat) : Int), wd.old, wd.news), (.slice A6 (wd.news.length) c7))) Tryz.underlying68 info_121 rfl rfl rfl rfl rfl rfl rfl rfl rfl rfl (by omega) (by omega) rfl (fun v9 => ?_))))
     simp only [sc0, scS]
     refine At.drop 0 ?_
     simp only [ec0, ecS]
     refine At.bring 2 rfl ?_
     simp only [ec0, ecS]
     refine At.bring 1 rfl ?_
     simp only [ec0, ecS]
     refine At.starPush (At.bring 1 rfl ?_)
     simp only [ec0, ecS]
     refine tA rfl rfl (At.nil (At.blkN (At.thenN (At.region (tM rfl rfl ?_)))))
     first | refine tV (Val.addI rfl rfl (by omega) (by omega)) rfl ?_ | refine tV (Val.bin rfl rfl rfl) rfl ?_
     refine tA rfl rfl (tE ?_)
     exact At.again (j + 1, Q2 ++ [((8 * ((8 * i + j : Nat) : Int), wd.old, wd.news), (.slice A6 (wd.news.length) c7))], v9) ⟨(show j + 1 ≤ 8 by omega), fst_step hs2.2 hk hn⟩ (by dsimp only; omega) (Sub.cons rfl (Sub.cons rfl (Sub.cons rfl (Sub.cons (congrArg (fun z => some (Value.int IntKind.i64 z)) (by omega)) Sub.nil)))) (by dsimp only; rw [newsR_snoc]; exact List.Perm.refl _)
    ·try simp only [hasB, isSizeB, sB] at h5
     have hn : wd.news = [] := List.eq_nil_of_length_eq_zero (by omega)
     refine At.drop 0 ?_
     simp only [ec0, ecS]
     refine At.skipC (At.blkN (At.thenN (At.region (tM rfl rfl ?_))))
     first | refine tV (Val.addI rfl rfl (by omega) (by omega)) rfl ?_ | refine tV (Val.bin rfl rfl rfl) rfl ?_
     refine tA rfl rfl (tE ?_)
     exact At.again (j + 1, Q2, vd2) ⟨(show j + 1 ≤ 8 by omega), (by show _ = (dts σ.ws).take (dkc σ.ws (8 * i + j + 1)); rw [dkc_no hk hn]; exact hs2.2)⟩ (by dsimp only; omega) (Sub.cons rfl (Sub.cons rfl (Sub.cons rfl (Sub.cons (congrArg (fun z => some (Value.int IntKind.i64 z)) (by omega)) Sub.nil)))) (List.Perm.refl _)
   ·try simp only [hasB, isSizeB, sB] at h3
    have hdone : dkc σ.ws (8 * i + j) = dkc σ.ws (8 * i + 8) := by by_cases h8' : j = 8; rw [h8']; exact ((dkc_line (k := 8 * i) 8 (fun m hm => hsim.noPuts hlq (List.eq_nil_of_length_eq_zero (by omega)) hm)).trans (dkc_line (k := 8 * i) j (fun m hm => hsim.noPuts hlq (List.eq_nil_of_length_eq_zero (by omega)) (by omega))).symm).symm
    refine At.exitC (At.thenX (At.thenX (At.blkX (At.blkN (At.thenN (At.region (tM rfl rfl ?_)))))))
    first | refine tV (Val.addI rfl rfl (by omega) (by omega)) rfl ?_ | refine tV (Val.bin rfl rfl rfl) rfl ?_
    refine tA rfl rfl (tE ?_)
    exact At.again (i + 1, Q2, vd2) ⟨(show i + 1 ≤ _ by omega), (by rw [show 8 * (i + 1) = 8 * i + 8 by omega, ← hdone]; exact hs2.2)⟩ (by dsimp only; omega) (Sub.cons rfl (Sub.cons rfl (Sub.cons (congrArg (fun z => some (Value.int IntKind.i64 z)) (by omega)) Sub.nil))) (List.Perm.refl _)
 ·try simp only [hasB, isSizeB, sB] at h1
  obtain rfl : i = ρ.ls.length := by omega
  refine At.exitC (At.thenX (At.thenX (At.blkX (At.thenN (tR (tM rfl rfl (tA rfl rfl (tE (At.retC (At.ret1 (.inl rfl) rfl rfl rfl (fun w hw => ?_)))))))))))
  rw [← hsl, dkc_all, List.take_of_length_le (by rw [dts_length]; exact Nat.le_refl _)] at hs
  exact ⟨_, _, rfl, hs.2, (hw.perm (List.perm_middle (l₁ := [_, _]) (l₂ := [])).symm).toDbt⟩
end Go.Proofs.YtfchinibjhcejaaGreatDoor
namespace Go.Proofs.YtfchinibjhcejaaGreatDoor
open Go Go.Wk
def wordsL (l : List UInt8) (m : Nat) : List (BitVec 64) := (List.range m).map fun j => wdA l (8 * j)
theorem wordsL_length (l : List UInt8) (m : Nat) : (wordsL l m).length = m := by simp [wordsL]
theorem wordsL_at {l : List UInt8} {m j : Nat} (h : j < m) : (wordsL l m)[j]? = some (wdA l (8 * j)) := by unfold wordsL; rw [List.getElem?_map, List.getElem?_range h]; rfl
theorem wordsL_wbytes (X : List (BitVec 64)) : wordsL (wbytes X) X.length = X := by
  apply List.ext_getElem?
  intro k
  rcases Nat.lt_or_ge k X.length with h | h
  · rw [wordsL_at h, List.getElem?_eq_getElem h, wbytes_word (List.getElem?_eq_getElem h)]
  · rw [List.getElem?_eq_none (by rw [wordsL_length]; exact h), List.getElem?_eq_none h]
theorem wdA_cut {l : List UInt8} {a n : Nat} (h : a + 8 ≤ l.length) (hn : 8 ≤ n) : wdA ((l.drop a).take n) 0 = wdA l a := by unfold wdA num; rw [List.drop_zero, List.take_take, Nat.min_eq_left hn]
theorem write_d (p : Nat) (γ : Gh) (σ : Ds) (k m : Nat) (v : Value) (lb : List UInt8) (w : World) (hv : RdB w v lb) (ho : Off v (lb.map bv) (feet [Dev p γ σ])) (hm : lb.length = 8 * m) (hkl : k + m ≤ σ.ws.length) (hst : σ.steps + m ≤ 1099511627776) (hd : (Dev p γ σ).holds w) :
    DevU Tryz.prog 86 [.pointer (some ⟨p, 0, none⟩), .int .i64 (8 * (k : Int)), v] p γ σ (.int .i64 (storesE k σ (wordsL lb m)).1) (storesE k σ (wordsL lb m)).2 w := by
 obtain ⟨A, c, rfl⟩ : ∃ A c, v = .slice A lb.length c := by obtain ⟨A, c, h, _⟩ := hv; exact ⟨A, c, h⟩
 refine enterVc hd Tryz.func86 rfl Tryz.ntmps86 rfl ?_
 have hgd := Dev.good hd
 have hln := hgd.len
 simp only [envOf]
 refine tR (tA rfl rfl (tE (At.seq (tR (tM rfl rfl (tM rfl rfl (tM rfl rfl (tV (Val.lenRd hv Tryz.underlying29 rfl) rfl (At.callK 0 rfl (fun w hw hr => has_k _ _ _ _ _ w hr) Tryz.call115 rfl rfl (tV (Val.not rfl) rfl (tE ?_)))))))))))
 refine At.cond rfl (fun h1 => ?_) (fun h1 => ?_)
 ·try simp only [hasB, isSizeB, sB] at h1
  omega
 ·try simp only [hasB, isSizeB, sB] at h1
  refine At.skipC (At.thenN (At.seq (tR (tM rfl rfl (tV (Val.remI rfl rfl (by omega) (by decide)) rfl ?_)))))
  rw [show 8 * (k : Int) % 8 = 0 from by omega]
  refine tV (Val.bin rfl rfl rfl) rfl (tM rfl rfl (At.yes rfl rfl (tM rfl rfl (At.yes rfl rfl (tV (Val.lenRd hv Tryz.underlying29 rfl) rfl (At.yes rfl rfl (tV (Val.remI rfl rfl (by omega) (by decide)) rfl ?_)))))))
  rw [show ((lb.length : Nat) : Int) % 8 = 0 from by omega]
  refine At.yes rfl rfl (tV (Val.bin rfl rfl rfl) rfl (tV (Val.pickF rfl rfl) rfl (tE (At.condF rfl (At.skipC (At.thenN (At.seq (tR (tA rfl rfl (tE (At.block ?_)))))))))))
  skip
  refine At.loop (σ := (Nat × Ds) × Gh) (fun s => s.1.1 ≤ m ∧ storesE k σ (wordsL lb m) = storesE (k + s.1.1) s.1.2 ((wordsL lb m).drop s.1.1) ∧ s.1.2.ws.length = σ.ws.length ∧ s.1.2.steps = σ.steps + s.1.1) (fun s => [(0, .pointer (some ⟨p, 0, none⟩)), (1, .int .i64 (8 * (k : Int))), (2, (.slice A lb.length c)), (7, .int .i64 (8 * (s.1.1 : Int)))]) (fun s => [Dev p s.2 s.1.2]) (fun s => m - s.1.1) ((0, σ), γ) ⟨Nat.zero_le _, rfl, rfl, rfl⟩ (Sub.cons rfl (Sub.cons rfl (Sub.cons rfl (Sub.cons rfl Sub.nil)))) (List.Perm.refl _) ?_
  intro s hs
  obtain ⟨⟨j, σ1⟩, γ1⟩ := s
  dsimp only at hs ⊢
  obtain ⟨hj, he, hl1, hs1⟩ := hs
  refine At.seq (tR (tM rfl rfl (tM rfl rfl (tV (Val.lenRd hv Tryz.underlying29 rfl) rfl (tV (Val.bin rfl rfl rfl) rfl (tE ?_))))))
  refine At.cond rfl (fun h2 => ?_) (fun h2 => ?_)
  ·try simp only [hasB, isSizeB, sB] at h2
   have hjm : j < m := by omega
   refine At.skipC (At.thenN (At.seq (At.block (tR (tM rfl rfl (tM rfl rfl (tM rfl rfl ?_)))))))
   first | refine tV (Val.addI rfl rfl (by omega) (by omega)) rfl ?_ | refine tV (Val.bin rfl rfl rfl) rfl ?_
   refine tM rfl rfl (tM rfl rfl (tV (Val.cutRd (l := 8 * j) (h := lb.length) hv Tryz.underlying29 Tryz.sizeOf5 rfl ⟨_, _, rfl, by omega, by omega⟩ rfl (by omega) (by omega)) rfl ?_))
   refine At.callP (fun w hw => (by have h0 := wordOf_p _ _ w (RdB.cut (l := 8 * j) (h := lb.length) (hv.keep hw ho) (by omega) (by omega)) (by rw [List.length_take, List.length_drop]; omega); rwa [wdA_cut (by omega) (by omega)] at h0)) Tryz.call79 rfl rfl ?_
   obtain ⟨x, hx⟩ : ∃ x, x = wdA lb (8 * j) := ⟨_, rfl⟩
   rw [← hx]
   have hx : (wordsL lb m)[j]? = some x := by rw [hx]; exact wordsL_at hjm
   obtain ⟨wd, hwd⟩ : ∃ wd, σ1.ws[k + j]? = some wd := ⟨_, List.getElem?_eq_getElem (by omega)⟩
   cases hdb : deadB σ1
   ·rw [show 8 * (k : Int) + 8 * (j : Int) = 8 * ((k + j : Nat) : Int) from by omega]
    refine At.callD 0 rfl (fun w hw hr => (storeD_some (x := x) hwd) ▸ store_d _ _ _ (k + j) wd x w hwd (by omega) hdb hr) Tryz.call87 rfl rfl (fun y3 => ?_)
    simp only [sc0, scS]
    refine tA rfl rfl (tE (tR (tM rfl rfl (tV (Val.bin rfl rfl rfl) rfl (tE (At.condF rfl (At.skipC (At.blkN (At.thenN (At.region (tM rfl rfl ?_)))))))))))
    first | refine tV (Val.addI rfl rfl (by omega) (by omega)) rfl ?_ | refine tV (Val.bin rfl rfl rfl) rfl ?_
    refine tA rfl rfl (tE ?_)
    exact At.again ((j + 1, storeD σ1 (k + j) x), y3) ⟨(show j + 1 ≤ m by omega), (by rw [he, drop_cons hx, storesE_live hdb]; rfl), (storeD_rest x (show k + j < σ1.ws.length by omega)).2.2.trans hl1, (show (storeD σ1 (k + j) x).steps = σ.steps + (j + 1) by have := (storeD_rest x (show k + j < σ1.ws.length by omega)).1; omega)⟩ (by dsimp only; omega) (Sub.cons rfl (Sub.cons rfl (Sub.cons rfl (Sub.cons (congrArg (fun z => some (Value.int IntKind.i64 z)) (by first | omega | (dsimp only; omega))) Sub.nil)))) (List.Perm.refl _)
   ·refine At.callK 0 rfl (fun w hw hr => store_0 _ _ _ _ _ w (place_at' (by omega) (by omega) (by omega)) hdb hr) Tryz.call87 rfl rfl (tA rfl rfl (tE (tR (tM rfl rfl (tV (Val.bin rfl rfl rfl) rfl (tE (At.condT rfl (tR (tM rfl rfl (tA rfl rfl (tE (At.retC (At.blkR (At.thenR (At.thenR (At.blkR (At.thenR (At.ret1 (.inl rfl) rfl rfl rfl (fun w hw => ?_)))))))))))))))))))
    rw [he, drop_cons hx, storesE_dead hdb]
    exact ⟨_, rfl, hw⟩
  ·try simp only [hasB, isSizeB, sB] at h2
   refine At.exitC (At.thenX (At.thenX (At.blkX (At.thenN (tR (tA rfl rfl (tE (At.retC (At.ret1 (.inl rfl) rfl rfl rfl (fun w hw => ?_))))))))))
   rw [he, List.drop_of_length_le (by rw [wordsL_length]; omega)]
   exact ⟨_, rfl, hw⟩
end Go.Proofs.YtfchinibjhcejaaGreatDoor
namespace Go.Proofs.YtfchinibjhcejaaGreatDoor
open Go Go.Wk
theorem rstore_s (p : Nat) (γ : Rg) (ρ : Rs) (σ : Ds) (K : Nat) (x : BitVec 64) (w : World) (hsim : Sim σ ρ) (hK : K < σ.ws.length) (hs : σ.steps + 1 ≤ 1099511627776) (hno : deadB σ = false) (hd : (RDev p γ ρ).holds w) :
    RDevP Tryz.prog 130 [.pointer (some ⟨p, 0, none⟩), .int .i64 (8 * (K : Int)), b64 x] p γ ρ (.int .i64 0) (Sim (storeD σ K x)) w := by
  obtain ⟨l, v0, u, h1, h2, h3, h4⟩ := hsim.at hK
  have := rstore_d p γ ρ (K / 8) (K % 8) l x w h1 (Nat.mod_lt _ (by decide)) (by rw [← hsim.now]; exact hs) (hsim.alive hno) hd
  rw [K_split] at this
  refine this.toP ?_
  have h5 := hsim.store (k := K / 8) (j := K % 8) (x := x) hno h1 (Nat.mod_lt _ (by decide)) (by rwa [show 8 * (K / 8) + K % 8 = K by omega])
  rw [show 8 * (K / 8) + K % 8 = K by omega] at h5
  rwa [storeD_some h3]
theorem rflush_s (p : Nat) (γ : Rg) (ρ : Rs) (σ : Ds) (a : Int) (k : Nat) (w : World) (hsim : Sim σ ρ) (hk : 8 * k < σ.ws.length) (h0 : 64 * (k : Int) ≤ a) (h1 : a < 64 * (k : Int) + 64) (hs : σ.steps + 1 ≤ 1099511627776) (hno : deadB σ = false) (hd : (RDev p γ ρ).holds w) :
    RDevP Tryz.prog 168 [.pointer (some ⟨p, 0, none⟩), .int .i64 a] p γ ρ (.int .i64 0) (Sim (lineD σ k)) w := by
  have hl := hsim.len
  obtain ⟨l, hl⟩ : ∃ l, ρ.ls[k]? = some l := ⟨_, List.getElem?_eq_getElem (by omega)⟩
  exact (rflush_d p γ ρ a k l w hl h0 h1 (by rw [← hsim.now]; exact hs) (hsim.alive hno) hd).toP (hsim.flush hno hl)
theorem rfence_s (p : Nat) (γ : Rg) (ρ : Rs) (σ : Ds) (w : World) (hsim : Sim σ ρ) (hs : σ.steps + 1 ≤ 1099511627776) (hno : deadB σ = false) (hd : (RDev p γ ρ).holds w) :
    RDevP Tryz.prog 133 [.pointer (some ⟨p, 0, none⟩)] p γ ρ (.int .i64 0) (Sim (fenceD (stepD σ))) w :=
  (rfence_d p γ ρ w (by rw [← hsim.now]; exact hs) (hsim.alive hno) hd).toP (hsim.fence hno)
theorem rarm_s (p : Nat) (γ : Rg) (ρ : Rs) (σ : Ds) (m : Nat) (w : World) (hsim : Sim σ ρ) (hm : m ≤ 9223372036854775807) (hno : deadB σ = false) (hd : (RDev p γ ρ).holds w) :
    RDevP Tryz.prog 134 [.pointer (some ⟨p, 0, none⟩), .int .i64 (m : Int)] p γ ρ (.int .i64 0) (Sim (armD σ m)) w :=
  (rarm_d p γ ρ m w hm (hsim.alive hno) hd).toP (hsim.arm m)
theorem rflushAll_s (p : Nat) (γ : Rg) (ρ : Rs) (σ : Ds) (a n cnt : Nat) (w : World) (hsim : Sim σ ρ) (hwl : σ.ws.length ≤ 65536) (han : a + n ≤ 8 * σ.ws.length) (hct : cntP a n cnt) (hst : σ.steps + cnt ≤ 1099511627776) (hd : (RDev p γ ρ).holds w) :
    RDevP Tryz.prog 131 [.pointer (some ⟨p, 0, none⟩), .int .i64 (a : Int), .int .i64 (n : Int)] p γ ρ (.int .i64 (linesE (a / 64) σ cnt).1) (Sim (linesE (a / 64) σ cnt).2) w := by
 refine enterRc hd Tryz.func131 rfl Tryz.ntmps131 rfl ?_
 obtain ⟨hQ, hg⟩ := RDev.facts hd
 have hln := hg.len
 have hps := hg.pos
 have hnw := hg.now
 have hsl := hsim.len
 obtain ⟨hc0, hc1⟩ := hct
 simp only [envOf]
 refine tR (tA rfl rfl (tE (At.seq (tR (tM rfl rfl (tM rfl rfl (tM rfl rfl (At.callK 0 rfl (fun w hw hr => inside_k _ _ _ _ _ w hr) Tryz.call167 rfl rfl (tV (Val.not rfl) rfl (tE ?_))))))))))
 refine At.cond rfl (fun h1 => ?_) (fun h1 => ?_)
 ·try simp only [hasB, isSizeB, sB] at h1
  simp only [hasR, decide_eq_false_iff_not] at h1; omega
 ·try simp only [hasB, isSizeB, sB] at h1
  refine At.skipC (At.thenN (At.seq (tR (tM rfl rfl (tV (Val.bin rfl rfl rfl) rfl (tE ?_))))))
  refine At.cond rfl (fun h2 => ?_) (fun h2 => ?_)
  ·try simp only [hasB, isSizeB, sB] at h2
   obtain rfl : cnt = 0 := hc0 (by omega)
   refine tR (tA rfl rfl (tE (At.retC (At.thenR (At.ret1 (.inl rfl) rfl rfl rfl (fun w hw => ?_))))))
   exact ⟨_, _, rfl, hsim, hw⟩
  ·try simp only [hasB, isSizeB, sB] at h2
   have hn0 : 0 < n := by omega
   refine At.skipC (At.thenN (At.seq (tR (tM rfl rfl ?_))))
   first | refine tV (Val.quoI rfl rfl (by omega) (by omega) (by decide)) rfl ?_ | refine tV (Val.quo rfl rfl (by decide)) rfl ?_
   refine tA rfl rfl (tE (At.block ?_))
   skip
   refine At.loop (σ := (Nat × Ds) × Rg × Rs) (fun s => s.1.1 ≤ cnt ∧ linesE (a / 64) σ cnt = linesE (a / 64 + s.1.1) s.1.2 (cnt - s.1.1) ∧ s.1.2.ws.length = σ.ws.length ∧ s.1.2.steps = σ.steps + s.1.1 ∧ Sim s.1.2 s.2.2) (fun s => [(0, .pointer (some ⟨p, 0, none⟩)), (1, .int .i64 (a : Int)), (2, .int .i64 (n : Int)), (7, .int .i64 (((a / 64 : Nat) : Int) + (s.1.1 : Int)))]) (fun s => [RDev p s.2.1 s.2.2]) (fun s => cnt - s.1.1) ((0, σ), γ, ρ) ⟨Nat.zero_le _, rfl, rfl, rfl, hsim⟩ (Sub.cons rfl (Sub.cons rfl (Sub.cons rfl (Sub.cons (congrArg (fun z => some (Value.int IntKind.i64 z)) (by dsimp only; omega)) Sub.nil)))) (List.Perm.refl _) ?_
   intro s hs
   obtain ⟨⟨j, σ1⟩, γ1, ρ1⟩ := s
   dsimp only at hs ⊢
   obtain ⟨hj, he, hl1, hs1, hsim1⟩ := hs
   have hsl1 := hsim1.len
   refine At.seq (tR (tM rfl rfl (At.weaken [(0, _), (1, _), (2, _), (7, _), (18, _)] (Sub.cons rfl (Sub.cons rfl (Sub.cons rfl (Sub.cons rfl (Sub.cons rfl Sub.nil))))) ?_)))
   refine At.boolMeet 6 24 (decide (j < cnt)) ?_ ?_
   ·simp only [List.take_succ_cons, List.take_zero]
    refine tM rfl rfl (tM rfl rfl ?_)
    first | refine tV (Val.addI rfl rfl (by omega) (by omega)) rfl ?_ | refine tV (Val.bin rfl rfl rfl) rfl ?_
    first | refine tV (Val.subI rfl rfl (by omega) (by omega)) rfl ?_ | refine tV (Val.bin rfl rfl rfl) rfl ?_
    first | refine tV (Val.quoI rfl rfl (by omega) (by omega) (by decide)) rfl ?_ | refine tV (Val.quo rfl rfl (by decide)) rfl ?_
    refine tV (Val.bin rfl rfl rfl) rfl (At.nil ?_)
    exact At.boolEnd rfl (by apply Bool.eq_iff_iff.2; (simp only [decide_eq_true_eq, Bool.false_eq_true, false_iff, true_iff, gt_iff_lt, ge_iff_le]) <;> omega) (by repeat (first | exact Sub.nil | refine Sub.cons rfl ?_))
   ·simp only [List.drop_succ_cons, List.drop_zero]
    refine tE ?_
    refine At.cond rfl (fun h3 => ?_) (fun h3 => ?_)
    ·try simp only [hasB, isSizeB, sB] at h3
     refine At.skipC (At.thenN (At.seq (At.block (tR (tM rfl rfl (tM rfl rfl ?_))))))
     first | refine tV (Val.mulI rfl rfl (by omega) (by omega)) rfl ?_ | refine tV (Val.bin rfl rfl rfl) rfl ?_
     cases hdb : deadB σ1
     ·refine At.callRP 0 rfl (fun w hw hr => rflush_s _ _ _ σ1 _ (a / 64 + j) w hsim1 (by omega) (by omega) (by omega) (by omega) hdb hr) Tryz.call168 rfl rfl (fun y4 r5 hs6 => ?_)
      simp only [sc0, scS]
      refine tA rfl rfl (tE (tR (tM rfl rfl (tV (Val.bin rfl rfl rfl) rfl (tE (At.condF rfl (At.skipC (At.blkN (At.thenN (At.region (tM rfl rfl ?_)))))))))))
      first | refine tV (Val.addI rfl rfl (by omega) (by omega)) rfl ?_ | refine tV (Val.bin rfl rfl rfl) rfl ?_
      refine tA rfl rfl (tE ?_)
      exact At.again ((j + 1, lineD σ1 (a / 64 + j)), y4, r5) ⟨(show j + 1 ≤ cnt by omega), (by rw [he, show cnt - j = (cnt - (j + 1)) + 1 by omega, linesE_live hdb]; rfl), (lineD_rest σ1 _).2.2.trans hl1, (show (lineD σ1 (a / 64 + j)).steps = σ.steps + (j + 1) by have := (lineD_rest σ1 (a / 64 + j)).1; omega), hs6⟩ (by dsimp only; omega) (Sub.cons rfl (Sub.cons rfl (Sub.cons rfl (Sub.cons (congrArg (fun z => some (Value.int IntKind.i64 z)) (by dsimp only; omega)) Sub.nil)))) (List.Perm.refl _)
     ·refine At.callK 0 rfl (fun w hw hr => rflush_0 _ _ _ _ w (by omega) (by omega) (hsim1.isdead hdb) hr) Tryz.call168 rfl rfl (tA rfl rfl (tE (tR (tM rfl rfl (tV (Val.bin rfl rfl rfl) rfl (tE (At.condT rfl (tR (tM rfl rfl (tA rfl rfl (tE (At.retC (At.blkR (At.thenR (At.thenR (At.blkR (At.thenR (At.ret1 (.inl rfl) rfl rfl rfl (fun w hw => ?_)))))))))))))))))))
      rw [he, show cnt - j = (cnt - j - 1) + 1 by omega, linesE_dead hdb]
      exact ⟨_, _, rfl, hsim1, hw⟩
    ·try simp only [hasB, isSizeB, sB] at h3
     refine At.exitC (At.thenX (At.thenX (At.blkX (At.thenN (tR (tA rfl rfl (tE (At.retC (At.ret1 (.inl rfl) rfl rfl rfl (fun w hw => ?_))))))))))
     rw [he, show cnt - j = 0 by omega]
     exact ⟨_, _, rfl, hsim1, hw⟩
theorem rflushAll_no (p : Nat) (γ : Rg) (ρ : Rs) (a n : Int) (w : World) (ha : hasR ρ a n = false) (hd : (RDev p γ ρ).holds w) :
    Upd Tryz.prog 131 [.pointer (some ⟨p, 0, none⟩), .int .i64 a, .int .i64 n] (RDev p γ ρ) (.int .i64 11) (RDev p γ ρ) w := by
 refine enterRc hd Tryz.func131 rfl Tryz.ntmps131 rfl ?_
 obtain ⟨hQ, hg⟩ := RDev.facts hd
 have hln := hg.len
 have hps := hg.pos
 have hnw := hg.now
 simp only [envOf]
 refine tR (tA rfl rfl (tE (At.seq (tR (tM rfl rfl (tM rfl rfl (tM rfl rfl (At.callK 0 rfl (fun w hw hr => inside_k _ _ _ _ _ w hr) Tryz.call167 rfl rfl (tV (Val.not rfl) rfl (tE ?_))))))))))
 refine At.cond rfl (fun h1 => ?_) (fun h1 => ?_)
 ·refine tR (tA rfl rfl (tE (At.retC (At.thenR (At.ret1 (.inl rfl) rfl rfl rfl (fun w hw => ?_))))))
  exact ⟨rfl, hw⟩
 ·rw [ha] at h1; cases h1
end Go.Proofs.YtfchinibjhcejaaGreatDoor
