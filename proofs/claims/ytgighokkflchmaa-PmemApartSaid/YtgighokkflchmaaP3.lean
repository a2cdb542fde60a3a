/- A device made, loaded, armed; the word at an address. -/
import Derived.Test.YtgighokkflchmaaP2
set_option linter.unusedVariables false
set_option linter.unusedSimpArgs false
namespace Go.Proofs.Ytgighokkflchmaa
open Go Go.Wk

def loadWs (l : List UInt8) : List Wd := (List.range (l.length / 8)).map fun i => ⟨wdA l (8 * i), [], 0⟩
def loadD (l : List UInt8) : Ds := ⟨loadWs l, 0, false, 0⟩
theorem loadWs_length (l : List UInt8) : (loadWs l).length = l.length / 8 := by simp [loadWs]
theorem loadWs_calm (l : List UInt8) : ∀ w ∈ loadWs l, w.news = [] := fun w hw => by
  obtain ⟨i, _, rfl⟩ := List.mem_map.1 hw; rfl
theorem loadD_good {l : List UInt8} (h : isSizeB (l.length : Int) = true) : Dgood (loadD l) := by
  unfold isSizeB at h
  rw [decide_eq_true_eq] at h
  have e : (loadD l).ws.length = l.length / 8 := loadWs_length l
  exact ⟨by rw [e]; omega, by rw [e]; omega, by rw [e]; omega, by simp [loadD], by simp [loadD], fun w hw => by
    obtain ⟨i, _, rfl⟩ := List.mem_map.1 hw
    exact ⟨Nat.le_refl _, Nat.le_refl _⟩⟩
def fillW (l : List UInt8) (k : Nat) : List (BitVec 64) := ((List.range k).map fun i => wdA l (8 * i)) ++ List.replicate (l.length / 8 - k) 0
theorem fillW_length {l : List UInt8} {k : Nat} (h : k ≤ l.length / 8) : (fillW l k).length = l.length / 8 := by unfold fillW; simp; omega
theorem fillW_step {l : List UInt8} {k : Nat} (h : k < l.length / 8) : (fillW l k).set k (wdA l (8 * k)) = fillW l (k + 1) := by
  unfold fillW
  rw [List.set_append_right _ _ (by simp), List.length_map, List.length_range, Nat.sub_self, List.range_succ, List.map_append]
  obtain ⟨m, hm⟩ : ∃ m, l.length / 8 - k = m + 1 := ⟨l.length / 8 - k - 1, by omega⟩
  rw [hm, List.replicate_succ, List.set_cons_zero, show l.length / 8 - (k + 1) = m from by omega]
  simp
theorem fillW_all (l : List UInt8) : fillW l (l.length / 8) = olds (loadD l).ws := by
  unfold fillW olds loadD loadWs
  simp [Function.comp_def]
theorem wdA_drop (l : List UInt8) (a : Nat) : wdA (l.drop a) 0 = wdA l a := by unfold wdA num; rw [List.drop_zero]
def armD (σ : Ds) (m : Nat) : Ds := { σ with armed := true, left := m }
theorem armD_good {σ : Ds} {m : Nat} (h : Dgood σ) (hm : m ≤ 9223372036854775807) : Dgood (armD σ m) := ⟨h.pos, h.len, h.lines, h.steps, hm, h.word⟩


theorem place_at {σ : Ds} {k : Nat} (h : k < σ.ws.length) : placeE σ (8 * (k : Int)) = 0 := by unfold placeE; rw [if_pos (by omega), if_pos (by omega)]
theorem place_inv {σ : Ds} {a : Int} (h : placeE σ a = 0) : ∃ k : Nat, a = 8 * (k : Int) ∧ k < σ.ws.length := by
  unfold placeE at h
  split at h
  · split at h
    · exact ⟨(a / 8).toNat, by omega, by omega⟩
    · omega
  · omega


theorem rot3p {a b c f : Res} : List.Perm [f, a, b, c] [a, c, b, f] := by
  refine (List.perm_middle (l₁ := [a, b, c]) (l₂ := [])).symm.trans ?_
  exact ((List.Perm.swap c b [f])).cons a

theorem new_d (N : Nat) (w : World) (hn : isSizeB (8 * (N : Int)) = true) :
    NewDev Try.prog 18 [.int .i64 (8 * (N : Int))] (zeroD N) w := by
 refine enter (feet []) [] Try.func18 rfl Try.ntmps18 rfl ⟨by simp, by simp, by simp, Mod.refl _ _⟩ ?_
 have hnn := hn
 unfold isSizeB at hnn
 rw [decide_eq_true_eq] at hnn
 simp only [envOf]
 refine tR ?_
 refine tA rfl rfl ?_
 refine tA rfl rfl ?_
 refine tE ?_
 refine At.seq ?_
 refine tR ?_
 refine tM rfl rfl ?_
 refine At.callP (fun w hw => isSize_p _ w) Try.call37 rfl rfl ?_
 refine At.val (Val.not rfl) rfl rfl rfl ?_
 refine tE ?_
 refine At.cond rfl (fun h1 => ?_) (fun h1 => ?_)
 ·skip
  try simp only [hasB, isSizeB, Bool.not_eq_true', Bool.not_eq_false', bne_iff_ne, ne_eq, bne_eq_false_iff_eq, beq_iff_eq, beq_eq_false_iff_ne, decide_eq_true_eq, decide_eq_false_iff_not, gt_iff_lt, ge_iff_le] at h1
  omega
 ·skip
  try simp only [hasB, isSizeB, Bool.not_eq_true', Bool.not_eq_false', bne_iff_ne, ne_eq, bne_eq_false_iff_eq, beq_iff_eq, beq_eq_false_iff_ne, decide_eq_true_eq, decide_eq_false_iff_not, gt_iff_lt, ge_iff_le] at h1
  refine At.skipC ?_
  refine At.thenN ?_
  refine tR ?_
  refine tM rfl rfl ?_
  refine At.val (Val.quoI rfl rfl (by omega) (by omega) (by decide)) rfl rfl rfl ?_
  rw [show 8 * (N : Int) / 8 = (N : Int) from by omega]
  refine At.makeRowW Try.underlying66 info_32 rfl rfl rfl rfl rfl (by omega) rfl (fun v2 => ?_)
  refine At.makeMap rfl (fun mb3 => ?_)
  refine At.rowIs (i := 1) rfl (fun A4 c5 hv => ?_)
  subst hv
  refine At.val (Val.build (fun a ha => by simp only [List.map_toArray, List.map_cons, List.map_nil, ha.eval (x := (.tmp 9)) rfl, ha.eval (x := (.tmp 10)) rfl] <;> rfl) (bld_dev _ _ _ _)) rfl rfl rfl ?_
  refine At.box rfl rfl rfl (fun b6 => ?_)
  refine tA rfl rfl ?_
  refine tA rfl rfl ?_
  refine tE ?_
  refine At.retC ?_
  refine At.ret2 (.inl rfl) rfl rfl rfl rfl (fun w hw => ?_)
  have hgz := zeroD_good hn
  exact ⟨b6, ⟨(.slice A4 ((List.replicate N (0 : BitVec 64)).length) c5), mb3, fun _ => (0, .slice none 0 0)⟩, rfl, toDev (F := []) hgz (Rep.famNil (I := dI (zeroD N).ws (fun _ => (0, .slice none 0 0))) (dI_calm (wz_calm _)) hw |>.perm (rot3p)) rfl (by rw [show olds (zeroD N).ws = List.replicate N 0 from olds_wz N]) (by rw [mk_calm (ws := (zeroD N).ws) (wz_calm _)]) rfl⟩


theorem new_n (n : Int) (w : World) (hn : isSizeB n = true) (N : Nat) (hN : 8 * (N : Int) = n) : NewDev Try.prog 18 [.int .i64 n] (zeroD N) w := by
  subst hN; exact new_d N w hn

theorem new_no (n : Int) (w : World) (hn : isSizeB n = false) :
    PureC Try.prog 18 [.int .i64 n] (.tuple #[.pointer none, .int .i64 10]) w := by
 refine enter0 Try.func18 rfl Try.ntmps18 rfl ?_
 simp only [envOf]
 refine tR ?_
 refine tA rfl rfl ?_
 refine tA rfl rfl ?_
 refine tE ?_
 refine At.seq ?_
 refine tR ?_
 refine tM rfl rfl ?_
 refine At.callP (fun w hw => isSize_p _ w) Try.call37 rfl rfl ?_
 refine At.val (Val.not rfl) rfl rfl rfl ?_
 refine tE ?_
 refine At.cond rfl (fun h1 => ?_) (fun h1 => ?_)
 ·skip
  try simp only [hasB, isSizeB, Bool.not_eq_true', Bool.not_eq_false', bne_iff_ne, ne_eq, bne_eq_false_iff_eq, beq_iff_eq, beq_eq_false_iff_ne, decide_eq_true_eq, decide_eq_false_iff_not, gt_iff_lt, ge_iff_le] at h1
  refine tR ?_
  refine tA rfl rfl ?_
  refine tA rfl rfl ?_
  refine tE ?_
  refine At.retC ?_
  refine At.thenR ?_
  refine At.ret2 (.inl rfl) rfl rfl rfl rfl (fun w hw => ?_)
  exact ⟨rfl, hw.mod⟩
 ·skip
  try simp only [hasB, isSizeB, Bool.not_eq_true', Bool.not_eq_false', bne_iff_ne, ne_eq, bne_eq_false_iff_eq, beq_iff_eq, beq_eq_false_iff_ne, decide_eq_true_eq, decide_eq_false_iff_not, gt_iff_lt, ge_iff_le] at h1
  unfold isSizeB at hn; rw [decide_eq_false_iff_not] at hn; omega

theorem load_d (v : Value) (l : List UInt8) (w : World) (hv : RdB w v l) (hn : isSizeB (l.length : Int) = true) :
    NewDev Try.prog 42 [v] (loadD l) w := by
 refine enter (feet []) [] Try.func42 rfl Try.ntmps42 rfl ⟨by simp, by simp, by simp, Mod.refl _ _⟩ ?_
 have hnn := hn
 unfold isSizeB at hnn
 rw [decide_eq_true_eq] at hnn
 have hlz : (((olds (zeroD (l.length / 8)).ws).length : Nat) : Int) = ((l.length / 8 : Nat) : Int) := by rw [olds_length]; simp [zeroD, wz]
 have hf0 : fillW l 0 = olds (zeroD (l.length / 8)).ws := by rw [show olds (zeroD (l.length / 8)).ws = List.replicate (l.length / 8) 0 from olds_wz _]; unfold fillW; simp
 simp only [envOf]
 refine tR ?_
 refine tA rfl rfl ?_
 refine tA rfl rfl ?_
 refine tE ?_
 refine tR ?_
 refine tM rfl rfl ?_
 refine At.val (Val.lenRd hv Try.underlying36 rfl) rfl rfl rfl ?_
 refine At.callND (fun w hw => new_n _ w hn (l.length / 8) (by omega)) Try.call18 rfl rfl (fun p1 y2 => ?_)
 refine tM rfl rfl ?_
 refine At.val (Val.extract rfl rfl) rfl rfl rfl ?_
 refine At.val (Val.extract rfl rfl) rfl rfl rfl ?_
 refine tA rfl rfl ?_
 refine tA rfl rfl ?_
 refine tE ?_
 refine At.seq ?_
 refine tR ?_
 refine tM rfl rfl ?_
 refine At.val (Val.bin rfl rfl rfl) rfl rfl rfl ?_
 refine tE ?_
 refine At.cond rfl (fun h3 => ?_) (fun h3 => ?_)
 ·skip
  try simp only [hasB, isSizeB, Bool.not_eq_true', Bool.not_eq_false', bne_iff_ne, ne_eq, bne_eq_false_iff_eq, beq_iff_eq, beq_eq_false_iff_ne, decide_eq_true_eq, decide_eq_false_iff_not, gt_iff_lt, ge_iff_le] at h3
  simp at h3
 ·skip
  try simp only [hasB, isSizeB, Bool.not_eq_true', Bool.not_eq_false', bne_iff_ne, ne_eq, bne_eq_false_iff_eq, beq_iff_eq, beq_eq_false_iff_ne, decide_eq_true_eq, decide_eq_false_iff_not, gt_iff_lt, ge_iff_le] at h3
  refine At.skipC ?_
  refine At.thenN ?_
  refine At.seq ?_
  refine At.seq ?_
  refine At.openS 0 rfl ?_
  simp only [devL, List.cons_append, List.nil_append, ec0, ecS]
  refine At.region ?_
  refine tM rfl rfl ?_
  refine At.val (Val.nilCheck rfl) rfl rfl rfl ?_
  refine At.val (Val.field 0 rfl fo_71_0 rfl) rfl rfl rfl ?_
  refine At.val (Val.load (i := 0) Try.isAgg66 rfl rfl rfl) rfl rfl rfl ?_
  refine At.val (Val.lenRow (i := 1) Try.underlying66 rfl rfl) rfl rfl rfl ?_
  refine tM rfl rfl ?_
  refine tE ?_
  refine At.block ?_
  skip
  refine At.loop (σ := Nat) (fun k => k ≤ l.length / 8) (fun k => [(0, v), (4, .pointer (some ⟨p1, 0, none⟩)), (20, .int .i64 ((l.length / 8 : Nat) : Int)), (21, .int .i64 (k : Int))]) (fun k => [blk p1 tDv [y2.vo, .map (some y2.mb), .int .i64 0, .bool false, .int .i64 0], wrow tW y2.vo (fillW l k), mapR y2.mb (mk (zeroD (l.length / 8)).ws y2.g), fam (dI (zeroD (l.length / 8)).ws y2.g), factR (Dgood (zeroD (l.length / 8)))]) (fun k => l.length / 8 - k) 0 (Nat.zero_le _) (Sub.cons rfl (Sub.cons rfl (Sub.cons (congrArg (fun z => some (Value.int IntKind.i64 z)) hlz) (Sub.cons rfl Sub.nil)))) (by rw [show fillW l 0 = olds (zeroD (l.length / 8)).ws from hf0]; exact List.Perm.refl _) ?_
  intro k hs
  have hkl8 : 8 * k ≤ l.length := by omega
  have hfl := fillW_length hs
  refine tR ?_
  refine At.val (Val.bin rfl rfl rfl) rfl rfl rfl ?_
  refine tE ?_
  refine At.seq ?_
  refine At.cond rfl (fun h4 => ?_) (fun h4 => ?_)
  ·skip
   try simp only [hasB, isSizeB, Bool.not_eq_true', Bool.not_eq_false', bne_iff_ne, ne_eq, bne_eq_false_iff_eq, beq_iff_eq, beq_eq_false_iff_ne, decide_eq_true_eq, decide_eq_false_iff_not, gt_iff_lt, ge_iff_le] at h4
   have hk : k < l.length / 8 := by omega
   have hk8 : 8 * k + 8 ≤ l.length := by omega
   refine At.skipC ?_
   refine At.thenN ?_
   refine At.seq ?_
   refine At.block ?_
   refine tR ?_
   refine tM rfl rfl ?_
   refine tA rfl rfl ?_
   refine tE ?_
   refine At.tail 11 rfl (by decide +kernel) ?_
   simp only [List.take_succ_cons, List.take_zero, List.drop_succ_cons, List.drop_zero]
   refine qM rfl rfl ?_
   refine QAt.val (Val.nilCheck rfl) rfl rfl rfl ?_
   refine QAt.val (Val.field 0 rfl fo_71_0 rfl) rfl rfl rfl ?_
   refine QAt.val (Val.load (i := 0) Try.isAgg66 rfl rfl rfl) rfl rfl rfl ?_
   refine qM rfl rfl ?_
   refine qM rfl rfl ?_
   refine qM rfl rfl ?_
   refine QAt.val (Val.mulI rfl rfl (by omega) (by omega)) rfl rfl rfl ?_
   rw [show (k : Int) * 8 = ((8 * k : Nat) : Int) from by omega]
   refine QAt.cutB (8 * k) (l.length) hv Try.underlying36 Try.sizeOf5 rfl ⟨_, _, rfl, by omega, by omega⟩ rfl (by omega) (by omega) rfl rfl (fun v5 hv6 => ?_)
   refine QAt.callP (fun w hw => wordOf_p _ _ w (hv6.mod hw.modF) (by rw [List.length_take, List.length_drop]; omega)) Try.call43 rfl rfl ?_
   refine QAt.val (Val.indexRow (i := 1) k (by omega) Try.underlying66 Try.sizeOf32 rfl rfl rfl (by omega) (by omega)) rfl rfl rfl ?_
   refine QAt.fin ?_
   rw [show wdA ((l.drop (8 * k)).take (l.length - 8 * k)) 0 = wdA l (8 * k) from by rw [List.take_of_length_le (by rw [List.length_drop]; omega), wdA_drop]]
   refine At.storeRow (i := 1) Try.sizeOf32 rfl rfl rfl rfl (by rw [List.length_map]; omega) ?_
   simp only [sc0, scS]
   rw [← List.map_set, fillW_step hk, show (fillW l k).length = (fillW l (k + 1)).length from by rw [hfl, fillW_length (by omega)]]
   refine At.nil ?_
   refine At.blkN ?_
   refine At.thenN ?_
   refine At.region ?_
   first | refine At.val (Val.addI rfl rfl (by omega) (by omega)) rfl rfl rfl ?_ | refine At.val (Val.bin rfl rfl rfl) rfl rfl rfl ?_
   refine tM rfl rfl ?_
   refine tE ?_
   exact At.again (k + 1) (show k + 1 ≤ _ by omega) (by omega) (Sub.cons rfl (Sub.cons rfl (Sub.cons rfl (Sub.cons (congrArg (fun z => some (Value.int IntKind.i64 z)) (by omega)) Sub.nil)))) (List.Perm.refl _)
  ·skip
   try simp only [hasB, isSizeB, Bool.not_eq_true', Bool.not_eq_false', bne_iff_ne, ne_eq, bne_eq_false_iff_eq, beq_iff_eq, beq_eq_false_iff_ne, decide_eq_true_eq, decide_eq_false_iff_not, gt_iff_lt, ge_iff_le] at h4
   obtain rfl : k = l.length / 8 := by omega
   refine At.exitC ?_
   refine At.thenX ?_
   refine At.thenX ?_
   refine At.blkX ?_
   refine At.thenN ?_
   refine tR ?_
   refine tM rfl rfl ?_
   refine tA rfl rfl ?_
   refine tA rfl rfl ?_
   refine tE ?_
   refine At.retC ?_
   refine At.ret2 (.inl rfl) rfl rfl rfl rfl (fun w hw => ?_)
   exact ⟨p1, ⟨y2.vo, y2.mb, y2.g⟩, rfl, toDev (F := []) (loadD_good hn) (hw.drop (show List.Sublist [_, _, _, _] _ from (List.Sublist.refl _ |>.cons _ |>.cons_cons _ |>.cons_cons _ |>.cons_cons _ |>.cons_cons _))) rfl (by rw [fillW_all]) (by rw [mk_calm (ws := (zeroD (l.length / 8)).ws) (wz_calm _)]; exact congrArg (mapR _) (mk_calm (ws := (loadD l).ws) (loadWs_calm l)).symm) (congrArg fam (dI_calm' (ws := (zeroD (l.length / 8)).ws) (ws' := (loadD l).ws) (wz_calm _) (loadWs_calm l)))⟩

end Go.Proofs.Ytgighokkflchmaa
