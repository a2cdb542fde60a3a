/- The exact laws: devices that are made. -/
import Derived.Test.YtkpbpeajkfgfiaaS2
set_option linter.unusedVariables false
set_option linter.unusedSimpArgs false
namespace Go.Proofs.Ytkpbpeajkfgfiaa
open Go Go.Wk

structure Op7 where
  kd : Int
  dd : Int
  a : Int
  n : Int
  x : BitVec 64
  vB : Value
  lB : List UInt8
  vL : Value
  cs : List Int
def opC (o : Op7) : List Value := [.int .i64 o.kd, .int .i64 o.dd, .int .i64 o.a, .int .i64 o.n, b64 o.x, o.vB, o.vL]
def oC (L : List Op7) : List Value := L.flatMap opC
theorem oC_length (L : List Op7) : (oC L).length = L.length * 7 := by induction L with
  | nil => rfl
  | cons c a ih => simp only [oC, List.flatMap_cons, List.length_append, List.length_cons] at *; rw [ih]; simp [opC]; omega
theorem oC_at : ∀ {L : List Op7} {j i : Nat} {o : Op7} {u : Value}, L[j]? = some o → (opC o)[i]? = some u → (oC L)[j * 7 + i]? = some u
  | d :: L, 0, i, o, u, h, hu => by
    obtain rfl : d = o := by simpa using h
    have hi : i < 7 := (List.getElem?_eq_some_iff.1 hu).1
    show (opC d ++ oC L)[0 * 7 + i]? = some u
    rw [Nat.zero_mul, Nat.zero_add, List.getElem?_append_left hi]; exact hu
  | d :: L, j + 1, i, o, u, h, hu => by
    have := oC_at (L := L) (j := j) (by simpa using h) hu
    show (opC d ++ oC L)[(j + 1) * 7 + i]? = some u
    rw [List.getElem?_append_right (by show 7 ≤ _; omega), show (opC d).length = 7 from rfl, show (j + 1) * 7 + i - 7 = j * 7 + i by omega]; exact this
structure OpOk (w : World) (o : Op7) : Prop where
  b : RdB w o.vB o.lB
  l : RdI w o.vL o.cs
  bl : o.lB.length ≤ 140737488355328
  cl : o.cs.length ≤ 17592186044416
  n : o.n ≤ 9223372036854775807
def RdO (w : World) (v : Value) (L : List Op7) : Prop := Rd w v 7 L.length (oC L) ∧ ∀ o ∈ L, OpOk w o
theorem loadD_len' (l : List UInt8) : (loadD l).ws.length = l.length / 8 := by unfold loadD loadWs; simp

theorem begin_n (w : World) :
    NewBook Try.prog 71 w := by
 refine enter (feet []) [] Try.func71 rfl Try.ntmps71 rfl ⟨by simp, by simp, by simp, Mod.refl _ _⟩ ?_
 simp only [envOf]
 refine tR ?_
 refine tA rfl rfl ?_
 refine tA rfl rfl ?_
 refine tE ?_
 refine tR ?_
 refine At.val (Val.build (fun a ha => by simp only [List.map_toArray, List.map_cons, List.map_nil] <;> rfl) (bld_126_)) rfl rfl rfl ?_
 refine At.box rfl rfl rfl (fun b1 => ?_)
 refine tA rfl rfl ?_
 refine tE ?_
 refine At.seq ?_
 refine tR ?_
 refine tA rfl rfl ?_
 refine At.nil ?_
 refine At.famBnil ?_
 refine At.thenN ?_
 refine At.block ?_
 skip
 refine At.loop (σ := List Pr) (fun B => B.length ≤ 3 ∧ ∀ y ∈ B, PrOk 0 y) (fun B => [(2, .pointer (some ⟨b1, 0, none⟩)), (3, .int .i64 (B.length : Int))]) (fun B => [fam (bI B), blk b1 126 (bC B)]) (fun B => 3 - B.length) [] ⟨by decide, by simp⟩ (Sub.cons rfl (Sub.cons rfl Sub.nil)) (List.Perm.refl _) ?_
 intro B hs
 refine At.seq ?_
 refine tR ?_
 refine tM rfl rfl ?_
 refine At.val (Val.bin rfl rfl rfl) rfl rfl rfl ?_
 refine tE ?_
 refine At.cond rfl (fun h2 => ?_) (fun h2 => ?_)
 ·skip
  try simp only [hasB, isSizeB, Bool.not_eq_true', Bool.not_eq_false', bne_iff_ne, ne_eq, bne_eq_false_iff_eq, beq_iff_eq, beq_eq_false_iff_ne, decide_eq_true_eq, decide_eq_false_iff_not, gt_iff_lt, ge_iff_le] at h2
  have hB3 : B.length < 3 := by omega
  refine At.skipC ?_
  refine At.thenN ?_
  refine At.seq ?_
  refine At.block ?_
  refine tR ?_
  refine At.callND (fun w hw => new_n _ w rfl 64 rfl) Try.call54 rfl rfl (fun p3 y4 => ?_)
  refine tM rfl rfl ?_
  refine At.val (Val.extract rfl rfl) rfl rfl rfl ?_
  refine At.val (Val.extract rfl rfl) rfl rfl rfl ?_
  refine tA rfl rfl ?_
  refine tA rfl rfl ?_
  refine tE ?_
  refine tR ?_
  refine At.callNRD (fun w hw => rnew_d _ 8 w rfl rfl) Try.call75 rfl rfl (fun p5 y6 => ?_)
  refine tM rfl rfl ?_
  refine At.val (Val.extract rfl rfl) rfl rfl rfl ?_
  refine At.val (Val.extract rfl rfl) rfl rfl rfl ?_
  refine tA rfl rfl ?_
  refine tA rfl rfl ?_
  refine tE ?_
  refine At.seq ?_
  refine tR ?_
  refine tM rfl rfl ?_
  refine At.val (Val.eqNil (t := 25) (by kernel_rfl) rfl) rfl rfl rfl ?_
  refine tM rfl rfl ?_
  refine At.yes rfl rfl ?_
  refine tM rfl rfl ?_
  refine At.yes rfl rfl ?_
  refine At.val (Val.bin rfl rfl rfl) rfl rfl rfl ?_
  refine At.val (Val.pickF rfl rfl) rfl rfl rfl ?_
  refine tE ?_
  refine At.condF rfl ?_
  refine At.skipC ?_
  refine At.thenN ?_
  refine tR ?_
  refine tM rfl rfl ?_
  refine tM rfl rfl ?_
  refine tM rfl rfl ?_
  refine At.val (Val.nilCheck rfl) rfl rfl rfl ?_
  refine At.val (Val.field 0 rfl fo_126_0 rfl) rfl rfl rfl ?_
  refine At.val (Val.indexArr B.length (by omega) Try.underlying122 Try.sizeOf25 rfl rfl (by omega) (by omega)) rfl rfl rfl ?_
  refine At.store (i := 3) Try.sizeOf25 rfl rfl rfl rfl (by rw [bC_len (by omega)]; omega) ?_
  simp only [sc0, scS]
  refine tE ?_
  refine At.region ?_
  refine tM rfl rfl ?_
  refine tM rfl rfl ?_
  refine tM rfl rfl ?_
  refine At.val (Val.nilCheck rfl) rfl rfl rfl ?_
  refine At.val (Val.field 3 rfl fo_126_1 rfl) rfl rfl rfl ?_
  refine At.val (Val.indexArr (3 + B.length) (by omega) Try.underlying124 Try.sizeOf123 rfl rfl (by omega) (by omega)) rfl rfl rfl ?_
  refine At.store (i := 3) Try.sizeOf123 rfl rfl rfl rfl (by rw [List.length_set, bC_len (by omega)]; omega) ?_
  simp only [sc0, scS]
  refine At.nil ?_
  refine At.bring 3 rfl ?_
  simp only [ec0, ecS]
  refine At.bring 3 rfl ?_
  simp only [ec0, ecS]
  refine At.bring 2 rfl ?_
  simp only [ec0, ecS]
  refine At.bring 3 rfl ?_
  simp only [ec0, ecS]
  refine At.addF (x' := ⟨p3, y4, zeroD 64, p5, y6, zeroR 8⟩) ?_
  refine At.rew (H' := [fam (bI (B ++ [⟨p3, y4, zeroD 64, p5, y6, zeroR 8⟩])), blk b1 tBo (bC (B ++ [⟨p3, y4, zeroD 64, p5, y6, zeroR 8⟩]))]) (by rw [← bC_snoc (x' := ⟨p3, y4, zeroD 64, p5, y6, zeroR 8⟩) (by omega)]; rfl) ?_
  refine At.blkN ?_
  refine At.thenN ?_
  refine At.region ?_
  refine tM rfl rfl ?_
  first | refine At.val (Val.addI rfl rfl (by omega) (by omega)) rfl rfl rfl ?_ | refine At.val (Val.bin rfl rfl rfl) rfl rfl rfl ?_
  refine tA rfl rfl ?_
  refine tE ?_
  exact At.again (B ++ [⟨p3, y4, zeroD 64, p5, y6, zeroR 8⟩]) ⟨by rw [List.length_append, List.length_singleton]; omega, fun y hy => by rcases List.mem_append.1 hy with h9 | h9; exact hs.2 y h9; rw [List.mem_singleton.1 h9]; exact ⟨sim_zero 8, by show (zeroD 64).ws.length ≤ _; rw [zeroD_len]; decide, Nat.le_refl _⟩⟩ (by rw [List.length_append, List.length_singleton]; omega) (Sub.cons rfl (Sub.cons (congrArg (fun z => some (Value.int IntKind.i64 z)) (by rw [List.length_append, List.length_singleton]; omega)) Sub.nil)) (List.Perm.refl _)
 ·skip
  try simp only [hasB, isSizeB, Bool.not_eq_true', Bool.not_eq_false', bne_iff_ne, ne_eq, bne_eq_false_iff_eq, beq_iff_eq, beq_eq_false_iff_ne, decide_eq_true_eq, decide_eq_false_iff_not, gt_iff_lt, ge_iff_le] at h2
  refine At.exitC ?_
  refine At.thenX ?_
  refine At.thenX ?_
  refine At.blkX ?_
  refine At.thenN ?_
  refine tR ?_
  refine tM rfl rfl ?_
  refine tA rfl rfl ?_
  refine tA rfl rfl ?_
  refine tE ?_
  refine At.retC ?_
  refine At.ret2 (.inl rfl) rfl rfl rfl rfl (fun w hw => ?_)
  exact ⟨_, B, rfl, toBook ⟨by omega, hs.2⟩ (hw.perm (List.Perm.swap ..))⟩

theorem make_k (b m : Nat) (B : List Pr) (kd dd a n : Int) (x : BitVec 64) (vB vL : Value) (lB : List UInt8) (cs : List Int) (w : World) (hvB : RdB w vB lB) (hvL : RdI w vL cs) (hoB : Off vB (lB.map bv) (feet [BookR b B m])) (hoL : Off vL (cs.map (Value.int .i64)) (feet [BookR b B m])) (hbl : lB.length ≤ 140737488355328) (hcl : cs.length ≤ 17592186044416) (hn : n ≤ 9223372036854775807) (hm : m ≤ 1000000000) (hd : (BookR b B m).holds w) :
    BookP Try.prog 77 [.pointer (some ⟨b, 0, none⟩), .agg #[.int .i64 kd, .int .i64 dd, .int .i64 a, .int .i64 n, b64 x, vB, vL]] b B m w := by
 refine enter (feet [BookR b B m]) (bookL b B m) Try.func77 rfl Try.ntmps77 rfl (Rep.of_star (r := BookR b B m) hd) ?_
 unfold bookL
 have hok := BookR.ok hd
 have h3 := hok.1
 obtain ⟨d, hde⟩ : ∃ d, d = wordI dd 3 := ⟨_, rfl⟩
 have hd3 := wordI_lt dd (N := 3) (by decide)
 rw [← hde] at hd3
 obtain ⟨z0, hz⟩ : ∃ z, B[d]? = some z := ⟨_, List.getElem?_eq_getElem (by omega)⟩
 obtain ⟨hsim, hwl, hst⟩ := hok.2 z0 (List.mem_of_getElem? hz)
 simp only [envOf]
 refine tR ?_
 refine At.box rfl rfl rfl (fun b1 => ?_)
 refine tA rfl rfl ?_
 refine tE ?_
 refine tR ?_
 refine At.val (Val.field 1 rfl fo_118_1 rfl) rfl rfl rfl ?_
 refine At.val (Val.load (i := 0) Try.isAgg3 rfl rfl rfl) rfl rfl rfl ?_
 refine At.callP (fun w hw => place3_p _ w) Try.call76 rfl rfl ?_
 refine tA rfl rfl ?_
 refine At.nil ?_
 rw [← hde]
 refine At.thenN ?_
 refine tR ?_
 refine tA rfl rfl ?_
 refine tE ?_
 refine tR ?_
 refine tA rfl rfl ?_
 refine tE ?_
 refine tR ?_
 refine tA rfl rfl ?_
 refine tE ?_
 refine tR ?_
 refine tA rfl rfl ?_
 refine tE ?_
 refine At.seq ?_
 refine tR ?_
 refine At.val (Val.field 0 rfl fo_118_0 rfl) rfl rfl rfl ?_
 refine At.val (Val.load (i := 0) Try.isAgg3 rfl rfl rfl) rfl rfl rfl ?_
 refine tE ?_
 refine At.block ?_
 refine tR ?_
 refine At.val (Val.bin rfl rfl rfl) rfl rfl rfl ?_
 refine tA rfl rfl ?_
 refine tE ?_
 refine At.cond rfl (fun h2 => ?_) (fun h2 => ?_)
 ·skip
  try simp only [hasB, isSizeB, Bool.not_eq_true', Bool.not_eq_false', bne_iff_ne, ne_eq, bne_eq_false_iff_eq, beq_iff_eq, beq_eq_false_iff_ne, decide_eq_true_eq, decide_eq_false_iff_not, gt_iff_lt, ge_iff_le] at h2
  refine tR ?_
  refine At.val (Val.field 3 rfl fo_118_3 rfl) rfl rfl rfl ?_
  refine At.val (Val.load (i := 0) Try.isAgg3 rfl rfl rfl) rfl rfl rfl ?_
  cases hsz : isSizeB n
  ·skip
   refine At.callP (fun w hw => new_no _ w hsz) Try.call54 rfl rfl ?_
   refine tM rfl rfl ?_
   refine At.val (Val.extract rfl rfl) rfl rfl rfl ?_
   refine At.val (Val.extract rfl rfl) rfl rfl rfl ?_
   refine tA rfl rfl ?_
   refine tA rfl rfl ?_
   refine tE ?_
   refine At.region ?_
   refine At.val (Val.field 3 rfl fo_118_3 rfl) rfl rfl rfl ?_
   refine At.val (Val.load (i := 0) Try.isAgg3 rfl rfl rfl) rfl rfl rfl ?_
   refine At.callP (fun w hw => rnew_no _ w hsz) Try.call75 rfl rfl ?_
   refine tM rfl rfl ?_
   refine At.val (Val.extract rfl rfl) rfl rfl rfl ?_
   refine At.val (Val.extract rfl rfl) rfl rfl rfl ?_
   refine tA rfl rfl ?_
   refine tA rfl rfl ?_
   refine At.nil ?_
   refine At.blkN ?_
   refine At.thenN ?_
   refine At.seq ?_
   refine tR ?_
   refine tM rfl rfl ?_
   refine tM rfl rfl ?_
   refine At.val (Val.bin rfl rfl rfl) rfl rfl rfl ?_
   refine tM rfl rfl ?_
   refine At.yes rfl rfl ?_
   refine tM rfl rfl ?_
   refine At.yes rfl rfl ?_
   refine At.val (Val.eqNil (t := 25) (by kernel_rfl) rfl) rfl rfl rfl ?_
   refine At.yes rfl rfl ?_
   refine tM rfl rfl ?_
   refine At.yes rfl rfl ?_
   refine At.val (Val.eqNil (t := 123) (by kernel_rfl) rfl) rfl rfl rfl ?_
   refine At.yes rfl rfl ?_
   refine At.val (Val.neB Try.underlying4 rfl rfl) rfl rfl rfl ?_
   refine At.val (Val.pickF rfl rfl) rfl rfl rfl ?_
   refine tE ?_
   refine At.condF rfl ?_
   refine At.skipC ?_
   refine At.thenN ?_
   refine At.seq ?_
   refine tR ?_
   refine tM rfl rfl ?_
   refine At.val (Val.neNil (t := 123) (by kernel_rfl) rfl) rfl rfl rfl ?_
   refine tE ?_
   refine At.condF rfl ?_
   refine At.skipC ?_
   refine At.thenN ?_
   refine At.seq ?_
   refine At.bring 2 rfl ?_
   simp only [ec0, ecS]
   refine At.bring 2 rfl ?_
   simp only [ec0, ecS]
   refine At.region ?_
   refine tA rfl rfl ?_
   refine tE ?_
   refine At.retC ?_
   refine At.ret1 (.inl rfl) rfl rfl rfl (fun w hw => ?_)
   exact ⟨B, rfl, toBook (bok_more hok (Nat.le_add_right _ _)) hw⟩
  ·skip
   have hszd := hsz
   unfold isSizeB at hszd
   rw [decide_eq_true_eq] at hszd
   obtain ⟨M, hM⟩ : ∃ M : Nat, n = 64 * (M : Int) := ⟨(n / 64).toNat, by omega⟩
   refine At.callND (fun w hw => new_n _ w hsz (8 * M) (by omega)) Try.call54 rfl rfl (fun p3 y4 => ?_)
   refine tM rfl rfl ?_
   refine At.val (Val.extract rfl rfl) rfl rfl rfl ?_
   refine At.val (Val.extract rfl rfl) rfl rfl rfl ?_
   refine tA rfl rfl ?_
   refine tA rfl rfl ?_
   refine tE ?_
   refine At.region ?_
   refine At.val (Val.field 3 rfl fo_118_3 rfl) rfl rfl rfl ?_
   refine At.val (Val.load (i := 1) Try.isAgg3 rfl rfl rfl) rfl rfl rfl ?_
   refine At.callNRD (fun w hw => rnew_d _ M w hsz hM) Try.call75 rfl rfl (fun p5 y6 => ?_)
   refine tM rfl rfl ?_
   refine At.val (Val.extract rfl rfl) rfl rfl rfl ?_
   refine At.val (Val.extract rfl rfl) rfl rfl rfl ?_
   refine tA rfl rfl ?_
   refine tA rfl rfl ?_
   refine At.nil ?_
   refine At.blkN ?_
   refine At.thenN ?_
   refine At.seq ?_
   refine tR ?_
   refine tM rfl rfl ?_
   refine tM rfl rfl ?_
   refine At.val (Val.bin rfl rfl rfl) rfl rfl rfl ?_
   refine tM rfl rfl ?_
   refine At.yes rfl rfl ?_
   refine tM rfl rfl ?_
   refine At.yes rfl rfl ?_
   refine At.val (Val.eqNil (t := 25) (by kernel_rfl) rfl) rfl rfl rfl ?_
   refine At.yes rfl rfl ?_
   refine tM rfl rfl ?_
   refine At.yes rfl rfl ?_
   refine At.val (Val.eqNil (t := 123) (by kernel_rfl) rfl) rfl rfl rfl ?_
   refine At.yes rfl rfl ?_
   refine At.val (Val.neB Try.underlying4 rfl rfl) rfl rfl rfl ?_
   refine At.val (Val.pickF rfl rfl) rfl rfl rfl ?_
   refine tE ?_
   refine At.condF rfl ?_
   refine At.skipC ?_
   refine At.thenN ?_
   refine At.seq ?_
   refine tR ?_
   refine tM rfl rfl ?_
   refine At.val (Val.neNil (t := 123) (by kernel_rfl) rfl) rfl rfl rfl ?_
   refine tE ?_
   refine At.condT rfl ?_
   refine tR ?_
   refine tM rfl rfl ?_
   refine tM rfl rfl ?_
   refine tM rfl rfl ?_
   refine At.val (Val.nilCheck rfl) rfl rfl rfl ?_
   refine At.val (Val.field 0 rfl fo_126_0 rfl) rfl rfl rfl ?_
   refine At.val (Val.indexArr d (by omega) Try.underlying122 Try.sizeOf25 rfl rfl (by omega) (by omega)) rfl rfl rfl ?_
   refine At.store (i := 3) Try.sizeOf25 rfl rfl rfl rfl (by rw [bC_len (by omega)]; omega) ?_
   simp only [sc0, scS]
   refine tE ?_
   refine At.region ?_
   refine tM rfl rfl ?_
   refine tM rfl rfl ?_
   refine tM rfl rfl ?_
   refine At.val (Val.nilCheck rfl) rfl rfl rfl ?_
   refine At.val (Val.field 3 rfl fo_126_1 rfl) rfl rfl rfl ?_
   refine At.val (Val.indexArr (3 + d) (by omega) Try.underlying124 Try.sizeOf123 rfl rfl (by omega) (by omega)) rfl rfl rfl ?_
   refine At.store (i := 3) Try.sizeOf123 rfl rfl rfl rfl (by rw [List.length_set, bC_len (by omega)]; omega) ?_
   simp only [sc0, scS]
   refine At.nil ?_
   refine At.bring 3 rfl ?_
   simp only [ec0, ecS]
   refine At.bring 4 rfl ?_
   simp only [ec0, ecS]
   refine At.bring 2 rfl ?_
   simp only [ec0, ecS]
   refine At.bring 3 rfl ?_
   simp only [ec0, ecS]
   refine At.swapF (x' := ⟨p3, y4, zeroD (8 * M), p5, y6, zeroR M⟩) hz ?_
   refine At.rew (H' := fam (bI (B.set d ⟨p3, y4, zeroD (8 * M), p5, y6, zeroR M⟩)) :: blk b tBo (bC (B.set d ⟨p3, y4, zeroD (8 * M), p5, y6, zeroR M⟩)) :: _) (by rw [← bC_set (x' := ⟨p3, y4, zeroD (8 * M), p5, y6, zeroR M⟩) h3 hd3]; rfl) ?_
   refine At.thenN ?_
   refine At.seq ?_
   refine At.bring 1 rfl ?_
   simp only [ec0, ecS]
   refine At.region ?_
   refine tA rfl rfl ?_
   refine tE ?_
   refine At.retC ?_
   refine At.ret1 (.inl rfl) rfl rfl rfl (fun w hw => ?_)
   exact ⟨B.set d ⟨p3, y4, zeroD (8 * M), p5, y6, zeroR M⟩, rfl, toBook (bok_set hok (Nat.le_add_right _ _) ⟨sim_zero M, by show (zeroD (8 * M)).ws.length ≤ _; rw [zeroD_len]; omega, Nat.zero_le _⟩) hw⟩
 ·skip
  try simp only [hasB, isSizeB, Bool.not_eq_true', Bool.not_eq_false', bne_iff_ne, ne_eq, bne_eq_false_iff_eq, beq_iff_eq, beq_eq_false_iff_ne, decide_eq_true_eq, decide_eq_false_iff_not, gt_iff_lt, ge_iff_le] at h2
  refine tR ?_
  refine At.val (Val.field 5 rfl fo_118_5 rfl) rfl rfl rfl ?_
  refine At.val (Val.load (i := 0) Try.isAgg33 rfl rfl rfl) rfl rfl rfl ?_
  refine tA rfl rfl ?_
  refine tE ?_
  refine At.seq ?_
  refine tR ?_
  refine At.val (Val.field 0 rfl fo_118_0 rfl) rfl rfl rfl ?_
  refine At.val (Val.load (i := 0) Try.isAgg3 rfl rfl rfl) rfl rfl rfl ?_
  refine At.val (Val.bin rfl rfl rfl) rfl rfl rfl ?_
  refine tE ?_
  refine At.cond rfl (fun h7 => ?_) (fun h7 => ?_)
  ·skip
   try simp only [hasB, isSizeB, Bool.not_eq_true', Bool.not_eq_false', bne_iff_ne, ne_eq, bne_eq_false_iff_eq, beq_iff_eq, beq_eq_false_iff_ne, decide_eq_true_eq, decide_eq_false_iff_not, gt_iff_lt, ge_iff_le] at h7
   obtain ⟨d1, hd1⟩ : ∃ d1, d1 = wordI n 3 := ⟨_, rfl⟩
   have hd13 := wordI_lt n (N := 3) (by decide)
   rw [← hd1] at hd13
   obtain ⟨z1, hz1⟩ : ∃ z, B[d1]? = some z := ⟨_, List.getElem?_eq_getElem (by omega)⟩
   obtain ⟨hsim1, hwl1, hst1⟩ := hok.2 z1 (List.mem_of_getElem? hz1)
   refine At.tail 10 rfl (by decide +kernel) ?_
   simp only [List.take_succ_cons, List.take_zero, List.drop_succ_cons, List.drop_zero]
   refine qM rfl rfl ?_
   refine QAt.val (Val.field 3 rfl fo_118_3 rfl) rfl rfl rfl ?_
   refine QAt.val (Val.load (i := 0) Try.isAgg3 rfl rfl rfl) rfl rfl rfl ?_
   refine QAt.callP (fun w hw => place3_p _ w) Try.call76 rfl rfl ?_
   refine QAt.val (Val.nilCheck rfl) rfl rfl rfl ?_
   refine QAt.val (Val.field 3 rfl fo_126_1 rfl) rfl rfl rfl ?_
   rw [← hd1]
   refine QAt.val (Val.indexArr (b := b) (o := 3) (3 + d1) (by omega) Try.underlying124 Try.sizeOf123 rfl rfl (by omega) (by omega)) rfl rfl rfl ?_
   refine QAt.val (Val.load (i := 1) Try.isAgg123 rfl rfl (bC_q (by omega) hz1)) rfl rfl rfl ?_
   refine QAt.val (Val.field 6 rfl fo_118_6 rfl) rfl rfl rfl ?_
   refine QAt.val (Val.load (i := 0) Try.isAgg23 rfl rfl rfl) rfl rfl rfl ?_
   refine QAt.fin ?_
   refine At.callRK 2 rfl (fun w hw hr => crash_in hz1 hr (rcrash_s z1.q z1.δ z1.ρ z1.σ vL cs w hsim1 hwl1 (fun u hu => by have h9 := (Dev.good (dv_of hr hz1)).word u hu; omega) (hvL.keep hw hoL) (Off.sub (Rep.offOld hw hvL hoL (List.mem_of_getElem? (i := 2) rfl)) (feet_rd hz1)) (rd_of hr hz1))) Try.call83 rfl rfl (fun v8 => ?_)
   have hlil : (wbytes (picked z1.σ.ws (pkC z1.σ.ws cs))).length ≤ 140737488355328 := by rw [wbytes_length, picked_length]; omega
   generalize wbytes (picked z1.σ.ws (pkC z1.σ.ws cs)) = li at *
   refine tA rfl rfl ?_
   refine tE ?_
   refine tR ?_
   refine tM rfl rfl ?_
   refine At.callN (fun w hw => copyBytes_n _ li w (row_rd (hw.row (i := 0) rfl) (by decide)) hlil) Try.call41 rfl rfl (fun v9 => ?_)
   refine tA rfl rfl ?_
   refine tE ?_
   refine tR ?_
   refine tM rfl rfl ?_
   cases hsz : isSizeB (li.length : Int)
   ·skip
    refine At.callP (fun w hw => load_no _ li w (row_rd (hw.row (i := 0) rfl) (by decide)) hsz) Try.call63 rfl rfl ?_
    refine tM rfl rfl ?_
    refine At.val (Val.extract rfl rfl) rfl rfl rfl ?_
    refine At.val (Val.extract rfl rfl) rfl rfl rfl ?_
    refine tA rfl rfl ?_
    refine tA rfl rfl ?_
    refine tE ?_
    refine tR ?_
    refine tM rfl rfl ?_
    refine At.callP (fun w hw => rload_no _ li w (row_rd (hw.row (i := 1) rfl) (by decide)) hsz) Try.call84 rfl rfl ?_
    refine tM rfl rfl ?_
    refine At.val (Val.extract rfl rfl) rfl rfl rfl ?_
    refine At.val (Val.extract rfl rfl) rfl rfl rfl ?_
    refine tA rfl rfl ?_
    refine tA rfl rfl ?_
    refine tE ?_
    refine At.seq ?_
    refine tR ?_
    refine tM rfl rfl ?_
    refine tM rfl rfl ?_
    refine At.callP (fun w hw => sameBytes_p _ _ li li w (row_rd (hw.row (i := 0) rfl) (by decide)) (row_rd (hw.row (i := 1) rfl) (by decide)) hlil hlil) Try.call28 rfl rfl ?_
    rw [decide_eq_true rfl]
    ·skip
     refine At.val (Val.not rfl) rfl rfl rfl ?_
     refine tE ?_
     refine At.condF rfl ?_
     refine At.skipC ?_
     refine At.thenN ?_
     refine tR ?_
     refine tA rfl rfl ?_
     refine tE ?_
     refine At.block ?_
     skip
     refine At.loop (σ := Nat × List UInt8) (fun s => s.1 ≤ li.length ∧ s.2.length = li.length) (fun s => [(0, .pointer (some ⟨b, 0, none⟩)), (3, .pointer (some ⟨b1, 0, none⟩)), (5, .int .i64 (d : Int)), (6, .pointer none), (7, .pointer none), (8, .int .i64 10), (9, .int .i64 10), (11, v9), (12, .int .i64 (s.1 : Int))]) (fun s => [brow 5 v9 s.2, rowR v8 5 1 ((li).length) ((li).map bv), blk b1 118 ([.int .i64 kd, .int .i64 dd, .int .i64 a, .int .i64 n, b64 x, vB, vL]), blk b 126 (bC B), fam (bI B), factR (BOk m B)]) (fun s => li.length - s.1) (0, li) ⟨Nat.zero_le _, rfl⟩ (Sub.cons rfl (Sub.cons rfl (Sub.cons rfl (Sub.cons rfl (Sub.cons rfl (Sub.cons rfl (Sub.cons rfl (Sub.cons rfl (Sub.cons rfl Sub.nil))))))))) (List.Perm.refl _) ?_
     intro s hs
     obtain ⟨k, l2⟩ := s
     dsimp only at hs ⊢
     have hil := hs.2
     refine At.seq ?_
     refine tR ?_
     refine tM rfl rfl ?_
     refine tM rfl rfl ?_
     refine At.val (Val.lenRow (i := 0) Try.underlying33 rfl rfl) rfl rfl rfl ?_
     refine At.val (Val.bin rfl rfl rfl) rfl rfl rfl ?_
     refine tE ?_
     refine At.cond rfl (fun h12 => ?_) (fun h12 => ?_)
     ·skip
      try simp only [hasB, isSizeB, Bool.not_eq_true', Bool.not_eq_false', bne_iff_ne, ne_eq, bne_eq_false_iff_eq, beq_iff_eq, beq_eq_false_iff_ne, decide_eq_true_eq, decide_eq_false_iff_not, gt_iff_lt, ge_iff_le] at h12
      refine At.skipC ?_
      refine At.thenN ?_
      refine At.seq ?_
      refine At.block ?_
      refine At.region ?_
      refine tM rfl rfl ?_
      refine tM rfl rfl ?_
      refine tM rfl rfl ?_
      refine tM rfl rfl ?_
      refine At.idxRowB (i := 0) rfl Try.underlying33 Try.sizeOf5 rfl rfl (by omega) (by omega) rfl rfl (fun q13 hq14 hl15 => ?_)
      refine At.val (Val.loadRowB (i := 0) Try.isAgg5 rfl rfl hq14) rfl rfl rfl ?_
      refine At.val (Val.bin rfl rfl rfl) rfl rfl rfl ?_
      rw [show ((q13.toNat : Nat) : Int) + 85 = ((q13.toNat + 85 : Nat) : Int) from by omega, wrap_u8_nat]
      refine At.idxRowB (i := 0) rfl Try.underlying33 Try.sizeOf5 rfl rfl (by omega) (by omega) rfl rfl (fun q16 hq17 hl18 => ?_)
      refine At.storeRowB (i := 0) (c := UInt8.ofNat (q13.toNat + 85)) Try.sizeOf5 rfl rfl rfl (by omega) ?_
      simp only [sc0, scS]
      refine At.nil ?_
      refine At.blkN ?_
      refine At.thenN ?_
      refine At.region ?_
      refine tM rfl rfl ?_
      first | refine At.val (Val.addI rfl rfl (by omega) (by omega)) rfl rfl rfl ?_ | refine At.val (Val.bin rfl rfl rfl) rfl rfl rfl ?_
      refine tA rfl rfl ?_
      refine tE ?_
      exact At.again (k + 1, l2.set k _) ⟨(show k + 1 ≤ _ by omega), (by show (l2.set _ _).length = _; rw [List.length_set]; exact hs.2)⟩ (by dsimp only; omega) (Sub.cons rfl (Sub.cons rfl (Sub.cons rfl (Sub.cons rfl (Sub.cons rfl (Sub.cons rfl (Sub.cons rfl (Sub.cons rfl (Sub.cons (congrArg (fun z => some (Value.int IntKind.i64 z)) (by omega)) Sub.nil))))))))) (List.Perm.refl _)
     ·skip
      try simp only [hasB, isSizeB, Bool.not_eq_true', Bool.not_eq_false', bne_iff_ne, ne_eq, bne_eq_false_iff_eq, beq_iff_eq, beq_eq_false_iff_ne, decide_eq_true_eq, decide_eq_false_iff_not, gt_iff_lt, ge_iff_le] at h12
      refine At.exitC ?_
      refine At.thenX ?_
      refine At.thenX ?_
      refine At.blkX ?_
      refine At.blkN ?_
      refine At.thenN ?_
      refine At.seq ?_
      refine tR ?_
      refine tM rfl rfl ?_
      refine tM rfl rfl ?_
      refine At.val (Val.bin rfl rfl rfl) rfl rfl rfl ?_
      refine tM rfl rfl ?_
      refine At.yes rfl rfl ?_
      refine tM rfl rfl ?_
      refine At.yes rfl rfl ?_
      refine At.val (Val.eqNil (t := 25) (by kernel_rfl) rfl) rfl rfl rfl ?_
      refine At.yes rfl rfl ?_
      refine tM rfl rfl ?_
      refine At.yes rfl rfl ?_
      refine At.val (Val.eqNil (t := 123) (by kernel_rfl) rfl) rfl rfl rfl ?_
      refine At.yes rfl rfl ?_
      refine At.val (Val.neB Try.underlying4 rfl rfl) rfl rfl rfl ?_
      refine At.val (Val.pickF rfl rfl) rfl rfl rfl ?_
      refine tE ?_
      refine At.condF rfl ?_
      refine At.skipC ?_
      refine At.thenN ?_
      refine At.seq ?_
      refine tR ?_
      refine tM rfl rfl ?_
      refine At.val (Val.neNil (t := 123) (by kernel_rfl) rfl) rfl rfl rfl ?_
      refine tE ?_
      refine At.condF rfl ?_
      refine At.skipC ?_
      refine At.thenN ?_
      refine At.seq ?_
      refine At.bring 4 rfl ?_
      simp only [ec0, ecS]
      refine At.bring 4 rfl ?_
      simp only [ec0, ecS]
      refine At.region ?_
      refine tA rfl rfl ?_
      refine tE ?_
      refine At.retC ?_
      refine At.ret1 (.inl rfl) rfl rfl rfl (fun w hw => ?_)
      exact ⟨B, rfl, toBook (bok_more hok (Nat.le_add_right _ _)) hw⟩
   ·skip
    have hszd := hsz
    unfold isSizeB at hszd
    rw [decide_eq_true_eq] at hszd
    obtain ⟨M, hM⟩ : ∃ M : Nat, li.length = 64 * M := ⟨li.length / 64, by omega⟩
    refine At.callND (fun w hw => load_d _ li w (row_rd (hw.row (i := 0) rfl) (by decide)) hsz) Try.call63 rfl rfl (fun p10 y11 => ?_)
    refine tM rfl rfl ?_
    refine At.val (Val.extract rfl rfl) rfl rfl rfl ?_
    refine At.val (Val.extract rfl rfl) rfl rfl rfl ?_
    refine tA rfl rfl ?_
    refine tA rfl rfl ?_
    refine tE ?_
    refine tR ?_
    refine tM rfl rfl ?_
    refine At.callNRD (fun w hw => rload_d _ li M w (row_rd (hw.row (i := 2) rfl) (by decide)) hsz hM) Try.call84 rfl rfl (fun p19 y20 => ?_)
    refine tM rfl rfl ?_
    refine At.val (Val.extract rfl rfl) rfl rfl rfl ?_
    refine At.val (Val.extract rfl rfl) rfl rfl rfl ?_
    refine tA rfl rfl ?_
    refine tA rfl rfl ?_
    refine tE ?_
    refine At.seq ?_
    refine tR ?_
    refine tM rfl rfl ?_
    refine tM rfl rfl ?_
    refine At.callP (fun w hw => sameBytes_p _ _ li li w (row_rd (hw.row (i := 2) rfl) (by decide)) (row_rd (hw.row (i := 3) rfl) (by decide)) hlil hlil) Try.call28 rfl rfl ?_
    rw [decide_eq_true rfl]
    ·skip
     refine At.val (Val.not rfl) rfl rfl rfl ?_
     refine tE ?_
     refine At.condF rfl ?_
     refine At.skipC ?_
     refine At.thenN ?_
     refine tR ?_
     refine tA rfl rfl ?_
     refine tE ?_
     refine At.block ?_
     skip
     refine At.loop (σ := Nat × List UInt8) (fun s => s.1 ≤ li.length ∧ s.2.length = li.length) (fun s => [(0, .pointer (some ⟨b, 0, none⟩)), (3, .pointer (some ⟨b1, 0, none⟩)), (5, .int .i64 (d : Int)), (6, .pointer (some ⟨p10, 0, none⟩)), (7, .pointer (some ⟨p19, 0, none⟩)), (8, .int .i64 0), (9, .int .i64 0), (11, v9), (12, .int .i64 (s.1 : Int))]) (fun s => [RDev p19 y20 (loadR li M), Dev p10 y11 (loadD li), brow 5 v9 s.2, rowR v8 5 1 ((li).length) ((li).map bv), blk b1 118 ([.int .i64 kd, .int .i64 dd, .int .i64 a, .int .i64 n, b64 x, vB, vL]), blk b 126 (bC B), fam (bI B), factR (BOk m B)]) (fun s => li.length - s.1) (0, li) ⟨Nat.zero_le _, rfl⟩ (Sub.cons rfl (Sub.cons rfl (Sub.cons rfl (Sub.cons rfl (Sub.cons rfl (Sub.cons rfl (Sub.cons rfl (Sub.cons rfl (Sub.cons rfl Sub.nil))))))))) (List.Perm.refl _) ?_
     intro s hs
     obtain ⟨k, l2⟩ := s
     dsimp only at hs ⊢
     have hil := hs.2
     refine At.seq ?_
     refine tR ?_
     refine tM rfl rfl ?_
     refine tM rfl rfl ?_
     refine At.val (Val.lenRow (i := 2) Try.underlying33 rfl rfl) rfl rfl rfl ?_
     refine At.val (Val.bin rfl rfl rfl) rfl rfl rfl ?_
     refine tE ?_
     refine At.cond rfl (fun h21 => ?_) (fun h21 => ?_)
     ·skip
      try simp only [hasB, isSizeB, Bool.not_eq_true', Bool.not_eq_false', bne_iff_ne, ne_eq, bne_eq_false_iff_eq, beq_iff_eq, beq_eq_false_iff_ne, decide_eq_true_eq, decide_eq_false_iff_not, gt_iff_lt, ge_iff_le] at h21
      refine At.skipC ?_
      refine At.thenN ?_
      refine At.seq ?_
      refine At.block ?_
      refine At.region ?_
      refine tM rfl rfl ?_
      refine tM rfl rfl ?_
      refine tM rfl rfl ?_
      refine tM rfl rfl ?_
      refine At.idxRowB (i := 2) rfl Try.underlying33 Try.sizeOf5 rfl rfl (by omega) (by omega) rfl rfl (fun q22 hq23 hl24 => ?_)
      refine At.val (Val.loadRowB (i := 2) Try.isAgg5 rfl rfl hq23) rfl rfl rfl ?_
      refine At.val (Val.bin rfl rfl rfl) rfl rfl rfl ?_
      rw [show ((q22.toNat : Nat) : Int) + 85 = ((q22.toNat + 85 : Nat) : Int) from by omega, wrap_u8_nat]
      refine At.idxRowB (i := 2) rfl Try.underlying33 Try.sizeOf5 rfl rfl (by omega) (by omega) rfl rfl (fun q25 hq26 hl27 => ?_)
      refine At.storeRowB (i := 2) (c := UInt8.ofNat (q22.toNat + 85)) Try.sizeOf5 rfl rfl rfl (by omega) ?_
      simp only [sc0, scS]
      refine At.nil ?_
      refine At.blkN ?_
      refine At.thenN ?_
      refine At.region ?_
      refine tM rfl rfl ?_
      first | refine At.val (Val.addI rfl rfl (by omega) (by omega)) rfl rfl rfl ?_ | refine At.val (Val.bin rfl rfl rfl) rfl rfl rfl ?_
      refine tA rfl rfl ?_
      refine tE ?_
      exact At.again (k + 1, l2.set k _) ⟨(show k + 1 ≤ _ by omega), (by show (l2.set _ _).length = _; rw [List.length_set]; exact hs.2)⟩ (by dsimp only; omega) (Sub.cons rfl (Sub.cons rfl (Sub.cons rfl (Sub.cons rfl (Sub.cons rfl (Sub.cons rfl (Sub.cons rfl (Sub.cons rfl (Sub.cons (congrArg (fun z => some (Value.int IntKind.i64 z)) (by omega)) Sub.nil))))))))) (List.Perm.refl _)
     ·skip
      try simp only [hasB, isSizeB, Bool.not_eq_true', Bool.not_eq_false', bne_iff_ne, ne_eq, bne_eq_false_iff_eq, beq_iff_eq, beq_eq_false_iff_ne, decide_eq_true_eq, decide_eq_false_iff_not, gt_iff_lt, ge_iff_le] at h21
      refine At.exitC ?_
      refine At.thenX ?_
      refine At.thenX ?_
      refine At.blkX ?_
      refine At.blkN ?_
      refine At.thenN ?_
      refine At.seq ?_
      refine tR ?_
      refine tM rfl rfl ?_
      refine tM rfl rfl ?_
      refine At.val (Val.bin rfl rfl rfl) rfl rfl rfl ?_
      refine tM rfl rfl ?_
      refine At.yes rfl rfl ?_
      refine tM rfl rfl ?_
      refine At.yes rfl rfl ?_
      refine At.val (Val.eqNil (t := 25) (by kernel_rfl) rfl) rfl rfl rfl ?_
      refine At.yes rfl rfl ?_
      refine tM rfl rfl ?_
      refine At.yes rfl rfl ?_
      refine At.val (Val.eqNil (t := 123) (by kernel_rfl) rfl) rfl rfl rfl ?_
      refine At.yes rfl rfl ?_
      refine At.val (Val.neB Try.underlying4 rfl rfl) rfl rfl rfl ?_
      refine At.val (Val.pickF rfl rfl) rfl rfl rfl ?_
      refine tE ?_
      refine At.condF rfl ?_
      refine At.skipC ?_
      refine At.thenN ?_
      refine At.seq ?_
      refine tR ?_
      refine tM rfl rfl ?_
      refine At.val (Val.neNil (t := 123) (by kernel_rfl) rfl) rfl rfl rfl ?_
      refine tE ?_
      refine At.condT rfl ?_
      refine tR ?_
      refine tM rfl rfl ?_
      refine tM rfl rfl ?_
      refine tM rfl rfl ?_
      refine At.val (Val.nilCheck rfl) rfl rfl rfl ?_
      refine At.val (Val.field 0 rfl fo_126_0 rfl) rfl rfl rfl ?_
      refine At.val (Val.indexArr d (by omega) Try.underlying122 Try.sizeOf25 rfl rfl (by omega) (by omega)) rfl rfl rfl ?_
      refine At.store (i := 5) Try.sizeOf25 rfl rfl rfl rfl (by rw [bC_len (by omega)]; omega) ?_
      simp only [sc0, scS]
      refine tE ?_
      refine At.region ?_
      refine tM rfl rfl ?_
      refine tM rfl rfl ?_
      refine tM rfl rfl ?_
      refine At.val (Val.nilCheck rfl) rfl rfl rfl ?_
      refine At.val (Val.field 3 rfl fo_126_1 rfl) rfl rfl rfl ?_
      refine At.val (Val.indexArr (3 + d) (by omega) Try.underlying124 Try.sizeOf123 rfl rfl (by omega) (by omega)) rfl rfl rfl ?_
      refine At.store (i := 5) Try.sizeOf123 rfl rfl rfl rfl (by rw [List.length_set, bC_len (by omega)]; omega) ?_
      simp only [sc0, scS]
      refine At.nil ?_
      refine At.bring 5 rfl ?_
      simp only [ec0, ecS]
      refine At.bring 6 rfl ?_
      simp only [ec0, ecS]
      refine At.bring 2 rfl ?_
      simp only [ec0, ecS]
      refine At.bring 3 rfl ?_
      simp only [ec0, ecS]
      refine At.swapF (x' := ⟨p10, y11, loadD li, p19, y20, loadR li M⟩) hz ?_
      refine At.rew (H' := fam (bI (B.set d ⟨p10, y11, loadD li, p19, y20, loadR li M⟩)) :: blk b tBo (bC (B.set d ⟨p10, y11, loadD li, p19, y20, loadR li M⟩)) :: _) (by rw [← bC_set (x' := ⟨p10, y11, loadD li, p19, y20, loadR li M⟩) h3 hd3]; rfl) ?_
      refine At.thenN ?_
      refine At.seq ?_
      refine At.bring 1 rfl ?_
      simp only [ec0, ecS]
      refine At.region ?_
      refine tA rfl rfl ?_
      refine tE ?_
      refine At.retC ?_
      refine At.ret1 (.inl rfl) rfl rfl rfl (fun w hw => ?_)
      exact ⟨B.set d ⟨p10, y11, loadD li, p19, y20, loadR li M⟩, rfl, toBook (bok_set hok (Nat.le_add_right _ _) ⟨sim_load hM, by show (loadD li).ws.length ≤ _; rw [loadD_len']; omega, Nat.zero_le _⟩) hw⟩
  ·skip
   try simp only [hasB, isSizeB, Bool.not_eq_true', Bool.not_eq_false', bne_iff_ne, ne_eq, bne_eq_false_iff_eq, beq_iff_eq, beq_eq_false_iff_ne, decide_eq_true_eq, decide_eq_false_iff_not, gt_iff_lt, ge_iff_le] at h7
   refine At.skipC ?_
   refine At.thenN ?_
   refine tR ?_
   refine tM rfl rfl ?_
   refine At.callN (fun w hw => copyBytes_n _ lB w (hvB.keep hw hoB) hbl) Try.call41 rfl rfl (fun v28 => ?_)
   refine tA rfl rfl ?_
   refine tE ?_
   refine tR ?_
   refine tM rfl rfl ?_
   cases hsz : isSizeB (lB.length : Int)
   ·skip
    refine At.callP (fun w hw => load_no _ lB w (row_rd (hw.row (i := 0) rfl) (by decide)) hsz) Try.call63 rfl rfl ?_
    refine tM rfl rfl ?_
    refine At.val (Val.extract rfl rfl) rfl rfl rfl ?_
    refine At.val (Val.extract rfl rfl) rfl rfl rfl ?_
    refine tA rfl rfl ?_
    refine tA rfl rfl ?_
    refine tE ?_
    refine tR ?_
    refine tM rfl rfl ?_
    refine At.callP (fun w hw => rload_no _ lB w (hvB.keep hw hoB) hsz) Try.call84 rfl rfl ?_
    refine tM rfl rfl ?_
    refine At.val (Val.extract rfl rfl) rfl rfl rfl ?_
    refine At.val (Val.extract rfl rfl) rfl rfl rfl ?_
    refine tA rfl rfl ?_
    refine tA rfl rfl ?_
    refine tE ?_
    refine At.seq ?_
    refine tR ?_
    refine tM rfl rfl ?_
    refine tM rfl rfl ?_
    refine At.callP (fun w hw => sameBytes_p _ _ lB lB w (row_rd (hw.row (i := 0) rfl) (by decide)) (hvB.keep hw hoB) hbl hbl) Try.call28 rfl rfl ?_
    rw [decide_eq_true rfl]
    ·skip
     refine At.val (Val.not rfl) rfl rfl rfl ?_
     refine tE ?_
     refine At.condF rfl ?_
     refine At.skipC ?_
     refine At.thenN ?_
     refine tR ?_
     refine tA rfl rfl ?_
     refine tE ?_
     refine At.block ?_
     skip
     refine At.loop (σ := Nat × List UInt8) (fun s => s.1 ≤ lB.length ∧ s.2.length = lB.length) (fun s => [(0, .pointer (some ⟨b, 0, none⟩)), (3, .pointer (some ⟨b1, 0, none⟩)), (5, .int .i64 (d : Int)), (6, .pointer none), (7, .pointer none), (8, .int .i64 10), (9, .int .i64 10), (11, v28), (12, .int .i64 (s.1 : Int))]) (fun s => [brow 5 v28 s.2, blk b1 118 ([.int .i64 kd, .int .i64 dd, .int .i64 a, .int .i64 n, b64 x, vB, vL]), blk b 126 (bC B), fam (bI B), factR (BOk m B)]) (fun s => lB.length - s.1) (0, lB) ⟨Nat.zero_le _, rfl⟩ (Sub.cons rfl (Sub.cons rfl (Sub.cons rfl (Sub.cons rfl (Sub.cons rfl (Sub.cons rfl (Sub.cons rfl (Sub.cons rfl (Sub.cons rfl Sub.nil))))))))) (List.Perm.refl _) ?_
     intro s hs
     obtain ⟨k, l2⟩ := s
     dsimp only at hs ⊢
     have hil := hs.2
     refine At.seq ?_
     refine tR ?_
     refine tM rfl rfl ?_
     refine tM rfl rfl ?_
     refine At.val (Val.lenRow (i := 0) Try.underlying33 rfl rfl) rfl rfl rfl ?_
     refine At.val (Val.bin rfl rfl rfl) rfl rfl rfl ?_
     refine tE ?_
     refine At.cond rfl (fun h31 => ?_) (fun h31 => ?_)
     ·skip
      try simp only [hasB, isSizeB, Bool.not_eq_true', Bool.not_eq_false', bne_iff_ne, ne_eq, bne_eq_false_iff_eq, beq_iff_eq, beq_eq_false_iff_ne, decide_eq_true_eq, decide_eq_false_iff_not, gt_iff_lt, ge_iff_le] at h31
      refine At.skipC ?_
      refine At.thenN ?_
      refine At.seq ?_
      refine At.block ?_
      refine At.region ?_
      refine tM rfl rfl ?_
      refine tM rfl rfl ?_
      refine tM rfl rfl ?_
      refine tM rfl rfl ?_
      refine At.idxRowB (i := 0) rfl Try.underlying33 Try.sizeOf5 rfl rfl (by omega) (by omega) rfl rfl (fun q32 hq33 hl34 => ?_)
      refine At.val (Val.loadRowB (i := 0) Try.isAgg5 rfl rfl hq33) rfl rfl rfl ?_
      refine At.val (Val.bin rfl rfl rfl) rfl rfl rfl ?_
      rw [show ((q32.toNat : Nat) : Int) + 85 = ((q32.toNat + 85 : Nat) : Int) from by omega, wrap_u8_nat]
      refine At.idxRowB (i := 0) rfl Try.underlying33 Try.sizeOf5 rfl rfl (by omega) (by omega) rfl rfl (fun q35 hq36 hl37 => ?_)
      refine At.storeRowB (i := 0) (c := UInt8.ofNat (q32.toNat + 85)) Try.sizeOf5 rfl rfl rfl (by omega) ?_
      simp only [sc0, scS]
      refine At.nil ?_
      refine At.blkN ?_
      refine At.thenN ?_
      refine At.region ?_
      refine tM rfl rfl ?_
      first | refine At.val (Val.addI rfl rfl (by omega) (by omega)) rfl rfl rfl ?_ | refine At.val (Val.bin rfl rfl rfl) rfl rfl rfl ?_
      refine tA rfl rfl ?_
      refine tE ?_
      exact At.again (k + 1, l2.set k _) ⟨(show k + 1 ≤ _ by omega), (by show (l2.set _ _).length = _; rw [List.length_set]; exact hs.2)⟩ (by dsimp only; omega) (Sub.cons rfl (Sub.cons rfl (Sub.cons rfl (Sub.cons rfl (Sub.cons rfl (Sub.cons rfl (Sub.cons rfl (Sub.cons rfl (Sub.cons (congrArg (fun z => some (Value.int IntKind.i64 z)) (by omega)) Sub.nil))))))))) (List.Perm.refl _)
     ·skip
      try simp only [hasB, isSizeB, Bool.not_eq_true', Bool.not_eq_false', bne_iff_ne, ne_eq, bne_eq_false_iff_eq, beq_iff_eq, beq_eq_false_iff_ne, decide_eq_true_eq, decide_eq_false_iff_not, gt_iff_lt, ge_iff_le] at h31
      refine At.exitC ?_
      refine At.thenX ?_
      refine At.thenX ?_
      refine At.blkX ?_
      refine At.blkN ?_
      refine At.thenN ?_
      refine At.seq ?_
      refine tR ?_
      refine tM rfl rfl ?_
      refine tM rfl rfl ?_
      refine At.val (Val.bin rfl rfl rfl) rfl rfl rfl ?_
      refine tM rfl rfl ?_
      refine At.yes rfl rfl ?_
      refine tM rfl rfl ?_
      refine At.yes rfl rfl ?_
      refine At.val (Val.eqNil (t := 25) (by kernel_rfl) rfl) rfl rfl rfl ?_
      refine At.yes rfl rfl ?_
      refine tM rfl rfl ?_
      refine At.yes rfl rfl ?_
      refine At.val (Val.eqNil (t := 123) (by kernel_rfl) rfl) rfl rfl rfl ?_
      refine At.yes rfl rfl ?_
      refine At.val (Val.neB Try.underlying4 rfl rfl) rfl rfl rfl ?_
      refine At.val (Val.pickF rfl rfl) rfl rfl rfl ?_
      refine tE ?_
      refine At.condF rfl ?_
      refine At.skipC ?_
      refine At.thenN ?_
      refine At.seq ?_
      refine tR ?_
      refine tM rfl rfl ?_
      refine At.val (Val.neNil (t := 123) (by kernel_rfl) rfl) rfl rfl rfl ?_
      refine tE ?_
      refine At.condF rfl ?_
      refine At.skipC ?_
      refine At.thenN ?_
      refine At.seq ?_
      refine At.bring 3 rfl ?_
      simp only [ec0, ecS]
      refine At.bring 3 rfl ?_
      simp only [ec0, ecS]
      refine At.region ?_
      refine tA rfl rfl ?_
      refine tE ?_
      refine At.retC ?_
      refine At.ret1 (.inl rfl) rfl rfl rfl (fun w hw => ?_)
      exact ⟨B, rfl, toBook (bok_more hok (Nat.le_add_right _ _)) hw⟩
   ·skip
    have hszd := hsz
    unfold isSizeB at hszd
    rw [decide_eq_true_eq] at hszd
    obtain ⟨M, hM⟩ : ∃ M : Nat, lB.length = 64 * M := ⟨lB.length / 64, by omega⟩
    refine At.callND (fun w hw => load_d _ lB w (row_rd (hw.row (i := 0) rfl) (by decide)) hsz) Try.call63 rfl rfl (fun p29 y30 => ?_)
    refine tM rfl rfl ?_
    refine At.val (Val.extract rfl rfl) rfl rfl rfl ?_
    refine At.val (Val.extract rfl rfl) rfl rfl rfl ?_
    refine tA rfl rfl ?_
    refine tA rfl rfl ?_
    refine tE ?_
    refine tR ?_
    refine tM rfl rfl ?_
    refine At.callNRD (fun w hw => rload_d _ lB M w (hvB.keep hw hoB) hsz hM) Try.call84 rfl rfl (fun p38 y39 => ?_)
    refine tM rfl rfl ?_
    refine At.val (Val.extract rfl rfl) rfl rfl rfl ?_
    refine At.val (Val.extract rfl rfl) rfl rfl rfl ?_
    refine tA rfl rfl ?_
    refine tA rfl rfl ?_
    refine tE ?_
    refine At.seq ?_
    refine tR ?_
    refine tM rfl rfl ?_
    refine tM rfl rfl ?_
    refine At.callP (fun w hw => sameBytes_p _ _ lB lB w (row_rd (hw.row (i := 2) rfl) (by decide)) (hvB.keep hw hoB) hbl hbl) Try.call28 rfl rfl ?_
    rw [decide_eq_true rfl]
    ·skip
     refine At.val (Val.not rfl) rfl rfl rfl ?_
     refine tE ?_
     refine At.condF rfl ?_
     refine At.skipC ?_
     refine At.thenN ?_
     refine tR ?_
     refine tA rfl rfl ?_
     refine tE ?_
     refine At.block ?_
     skip
     refine At.loop (σ := Nat × List UInt8) (fun s => s.1 ≤ lB.length ∧ s.2.length = lB.length) (fun s => [(0, .pointer (some ⟨b, 0, none⟩)), (3, .pointer (some ⟨b1, 0, none⟩)), (5, .int .i64 (d : Int)), (6, .pointer (some ⟨p29, 0, none⟩)), (7, .pointer (some ⟨p38, 0, none⟩)), (8, .int .i64 0), (9, .int .i64 0), (11, v28), (12, .int .i64 (s.1 : Int))]) (fun s => [RDev p38 y39 (loadR lB M), Dev p29 y30 (loadD lB), brow 5 v28 s.2, blk b1 118 ([.int .i64 kd, .int .i64 dd, .int .i64 a, .int .i64 n, b64 x, vB, vL]), blk b 126 (bC B), fam (bI B), factR (BOk m B)]) (fun s => lB.length - s.1) (0, lB) ⟨Nat.zero_le _, rfl⟩ (Sub.cons rfl (Sub.cons rfl (Sub.cons rfl (Sub.cons rfl (Sub.cons rfl (Sub.cons rfl (Sub.cons rfl (Sub.cons rfl (Sub.cons rfl Sub.nil))))))))) (List.Perm.refl _) ?_
     intro s hs
     obtain ⟨k, l2⟩ := s
     dsimp only at hs ⊢
     have hil := hs.2
     refine At.seq ?_
     refine tR ?_
     refine tM rfl rfl ?_
     refine tM rfl rfl ?_
     refine At.val (Val.lenRow (i := 2) Try.underlying33 rfl rfl) rfl rfl rfl ?_
     refine At.val (Val.bin rfl rfl rfl) rfl rfl rfl ?_
     refine tE ?_
     refine At.cond rfl (fun h40 => ?_) (fun h40 => ?_)
     ·skip
      try simp only [hasB, isSizeB, Bool.not_eq_true', Bool.not_eq_false', bne_iff_ne, ne_eq, bne_eq_false_iff_eq, beq_iff_eq, beq_eq_false_iff_ne, decide_eq_true_eq, decide_eq_false_iff_not, gt_iff_lt, ge_iff_le] at h40
      refine At.skipC ?_
      refine At.thenN ?_
      refine At.seq ?_
      refine At.block ?_
      refine At.region ?_
      refine tM rfl rfl ?_
      refine tM rfl rfl ?_
      refine tM rfl rfl ?_
      refine tM rfl rfl ?_
      refine At.idxRowB (i := 2) rfl Try.underlying33 Try.sizeOf5 rfl rfl (by omega) (by omega) rfl rfl (fun q41 hq42 hl43 => ?_)
      refine At.val (Val.loadRowB (i := 2) Try.isAgg5 rfl rfl hq42) rfl rfl rfl ?_
      refine At.val (Val.bin rfl rfl rfl) rfl rfl rfl ?_
      rw [show ((q41.toNat : Nat) : Int) + 85 = ((q41.toNat + 85 : Nat) : Int) from by omega, wrap_u8_nat]
      refine At.idxRowB (i := 2) rfl Try.underlying33 Try.sizeOf5 rfl rfl (by omega) (by omega) rfl rfl (fun q44 hq45 hl46 => ?_)
      refine At.storeRowB (i := 2) (c := UInt8.ofNat (q41.toNat + 85)) Try.sizeOf5 rfl rfl rfl (by omega) ?_
      simp only [sc0, scS]
      refine At.nil ?_
      refine At.blkN ?_
      refine At.thenN ?_
      refine At.region ?_
      refine tM rfl rfl ?_
      first | refine At.val (Val.addI rfl rfl (by omega) (by omega)) rfl rfl rfl ?_ | refine At.val (Val.bin rfl rfl rfl) rfl rfl rfl ?_
      refine tA rfl rfl ?_
      refine tE ?_
      exact At.again (k + 1, l2.set k _) ⟨(show k + 1 ≤ _ by omega), (by show (l2.set _ _).length = _; rw [List.length_set]; exact hs.2)⟩ (by dsimp only; omega) (Sub.cons rfl (Sub.cons rfl (Sub.cons rfl (Sub.cons rfl (Sub.cons rfl (Sub.cons rfl (Sub.cons rfl (Sub.cons rfl (Sub.cons (congrArg (fun z => some (Value.int IntKind.i64 z)) (by omega)) Sub.nil))))))))) (List.Perm.refl _)
     ·skip
      try simp only [hasB, isSizeB, Bool.not_eq_true', Bool.not_eq_false', bne_iff_ne, ne_eq, bne_eq_false_iff_eq, beq_iff_eq, beq_eq_false_iff_ne, decide_eq_true_eq, decide_eq_false_iff_not, gt_iff_lt, ge_iff_le] at h40
      refine At.exitC ?_
      refine At.thenX ?_
      refine At.thenX ?_
      refine At.blkX ?_
      refine At.blkN ?_
      refine At.thenN ?_
      refine At.seq ?_
      refine tR ?_
      refine tM rfl rfl ?_
      refine tM rfl rfl ?_
      refine At.val (Val.bin rfl rfl rfl) rfl rfl rfl ?_
      refine tM rfl rfl ?_
      refine At.yes rfl rfl ?_
      refine tM rfl rfl ?_
      refine At.yes rfl rfl ?_
      refine At.val (Val.eqNil (t := 25) (by kernel_rfl) rfl) rfl rfl rfl ?_
      refine At.yes rfl rfl ?_
      refine tM rfl rfl ?_
      refine At.yes rfl rfl ?_
      refine At.val (Val.eqNil (t := 123) (by kernel_rfl) rfl) rfl rfl rfl ?_
      refine At.yes rfl rfl ?_
      refine At.val (Val.neB Try.underlying4 rfl rfl) rfl rfl rfl ?_
      refine At.val (Val.pickF rfl rfl) rfl rfl rfl ?_
      refine tE ?_
      refine At.condF rfl ?_
      refine At.skipC ?_
      refine At.thenN ?_
      refine At.seq ?_
      refine tR ?_
      refine tM rfl rfl ?_
      refine At.val (Val.neNil (t := 123) (by kernel_rfl) rfl) rfl rfl rfl ?_
      refine tE ?_
      refine At.condT rfl ?_
      refine tR ?_
      refine tM rfl rfl ?_
      refine tM rfl rfl ?_
      refine tM rfl rfl ?_
      refine At.val (Val.nilCheck rfl) rfl rfl rfl ?_
      refine At.val (Val.field 0 rfl fo_126_0 rfl) rfl rfl rfl ?_
      refine At.val (Val.indexArr d (by omega) Try.underlying122 Try.sizeOf25 rfl rfl (by omega) (by omega)) rfl rfl rfl ?_
      refine At.store (i := 4) Try.sizeOf25 rfl rfl rfl rfl (by rw [bC_len (by omega)]; omega) ?_
      simp only [sc0, scS]
      refine tE ?_
      refine At.region ?_
      refine tM rfl rfl ?_
      refine tM rfl rfl ?_
      refine tM rfl rfl ?_
      refine At.val (Val.nilCheck rfl) rfl rfl rfl ?_
      refine At.val (Val.field 3 rfl fo_126_1 rfl) rfl rfl rfl ?_
      refine At.val (Val.indexArr (3 + d) (by omega) Try.underlying124 Try.sizeOf123 rfl rfl (by omega) (by omega)) rfl rfl rfl ?_
      refine At.store (i := 4) Try.sizeOf123 rfl rfl rfl rfl (by rw [List.length_set, bC_len (by omega)]; omega) ?_
      simp only [sc0, scS]
      refine At.nil ?_
      refine At.bring 4 rfl ?_
      simp only [ec0, ecS]
      refine At.bring 5 rfl ?_
      simp only [ec0, ecS]
      refine At.bring 2 rfl ?_
      simp only [ec0, ecS]
      refine At.bring 3 rfl ?_
      simp only [ec0, ecS]
      refine At.swapF (x' := ⟨p29, y30, loadD lB, p38, y39, loadR lB M⟩) hz ?_
      refine At.rew (H' := fam (bI (B.set d ⟨p29, y30, loadD lB, p38, y39, loadR lB M⟩)) :: blk b tBo (bC (B.set d ⟨p29, y30, loadD lB, p38, y39, loadR lB M⟩)) :: _) (by rw [← bC_set (x' := ⟨p29, y30, loadD lB, p38, y39, loadR lB M⟩) h3 hd3]; rfl) ?_
      refine At.thenN ?_
      refine At.seq ?_
      refine At.bring 1 rfl ?_
      simp only [ec0, ecS]
      refine At.region ?_
      refine tA rfl rfl ?_
      refine tE ?_
      refine At.retC ?_
      refine At.ret1 (.inl rfl) rfl rfl rfl (fun w hw => ?_)
      exact ⟨B.set d ⟨p29, y30, loadD lB, p38, y39, loadR lB M⟩, rfl, toBook (bok_set hok (Nat.le_add_right _ _) ⟨sim_load hM, by show (loadD lB).ws.length ≤ _; rw [loadD_len']; omega, Nat.zero_le _⟩) hw⟩

end Go.Proofs.Ytkpbpeajkfgfiaa
