/- Words in bytes; the word at a place. -/
import Derived.Test.YtgighokkflchmaaP1
import Derived.Test.YtgighokkflchmaaDe
set_option linter.unusedVariables false
set_option linter.unusedSimpArgs false
namespace Go.Proofs.Ytgighokkflchmaa
open Go Go.Wk

theorem wz_calm (n : Nat) : ∀ w ∈ wz n, w.news = [] := fun w hw => by rw [(List.mem_replicate.1 hw).2]; rfl
theorem olds_wz (n : Nat) : olds (wz n) = List.replicate n 0 := by simp [olds, wz, zWd]
theorem zeroD_good {n : Nat} (h : isSizeB (8 * (n : Int)) = true) : Dgood (zeroD n) := by
  unfold isSizeB at h
  rw [decide_eq_true_eq] at h
  have e : (zeroD n).ws.length = n := by simp [zeroD, wz]
  exact ⟨by rw [e]; omega, by rw [e]; omega, by rw [e]; omega, by simp [zeroD], by simp [zeroD], fun w hw => by
    have := (List.mem_replicate.1 hw).2
    subst this; exact ⟨Nat.le_refl _, Nat.le_refl _⟩⟩
theorem now_old {wd : Wd} (h : wd.news = []) : nowW wd = wd.old := by unfold nowW; rw [h]; rfl
theorem bld_dev (a : Option Addr) (n c m : Nat) (w : World) : (Instr.build 71 #[(0, .slice a n c), (1, .map (some m))]).run Try.prog w = .ok (.agg #[.slice a n c, .map (some m), .int .i64 0, .bool false, .int .i64 0]) w := by kernel_rfl

theorem wordOf_p (v : Value) (l : List UInt8) (w : World) (hv : RdB w v l) (h8 : 8 ≤ l.length) :
    PureC Try.prog 43 [v] (b64 (wdA l 0)) w := by
 refine enter0 Try.func43 rfl Try.ntmps43 rfl ?_
 simp only [envOf]
 refine tR ?_
 refine tA rfl rfl ?_
 refine tE ?_
 refine tR ?_
 refine tA rfl rfl ?_
 refine tE ?_
 refine At.seq ?_
 refine tR ?_
 refine tA rfl rfl ?_
 refine tE ?_
 refine At.block ?_
 skip
 refine At.loop (σ := Nat) (fun k => k ≤ 8) (fun k => [(0, v), (3, .int .u64 ((num l k (8 - k) : Nat) : Int)), (4, .int .i64 ((k : Int) - 1))]) (fun k => []) (fun k => k) 8 (Nat.le_refl _) (Sub.cons rfl (Sub.cons (congrArg (fun z => some (Value.int IntKind.u64 z)) (by rw [Nat.sub_self, num_zero]; rfl)) (Sub.cons rfl Sub.nil))) (List.Perm.refl _) ?_
 intro k hs
 refine At.seq ?_
 refine tR ?_
 refine tM rfl rfl ?_
 refine At.val (Val.bin rfl rfl rfl) rfl rfl rfl ?_
 refine tE ?_
 refine At.cond rfl (fun h1 => ?_) (fun h1 => ?_)
 ·skip
  try simp only [hasB, isSizeB, Bool.not_eq_true', Bool.not_eq_false', bne_iff_ne, ne_eq, bne_eq_false_iff_eq, beq_iff_eq, beq_eq_false_iff_ne, decide_eq_true_eq, decide_eq_false_iff_not, gt_iff_lt, ge_iff_le] at h1
  have hk : 1 ≤ k := by omega
  refine At.skipC ?_
  refine At.thenN ?_
  refine At.seq ?_
  refine At.block ?_
  refine At.region ?_
  refine tM rfl rfl ?_
  refine At.val (Val.shl rfl rfl (by decide)) rfl rfl rfl ?_
  refine tM rfl rfl ?_
  refine tM rfl rfl ?_
  refine At.idxB hv Try.underlying36 Try.sizeOf5 rfl rfl (by omega) (by omega) rfl rfl (fun b2 o3 q4 hq5 hl6 hc7 => ?_)
  refine At.val (Val.loadOld Try.isAgg5 rfl hc7 (fun h => h)) rfl rfl rfl ?_
  refine At.val (Val.toU Try.underlying5 Try.underlying32 rfl (by omega) (by omega)) rfl rfl rfl ?_
  have hq8 := hq5
  have e1 : ((k : Int) - 1).toNat = k - 1 := by omega
  rw [e1] at hq8
  have hlt := num_lt (l := l) k (8 - k)
  have hlt' : num l k (8 - k) < 72057594037927936 := Nat.lt_of_lt_of_le hlt (Nat.pow_le_pow_right (n := 256) (i := 8 - k) (j := 7) (by decide) (by omega))
  refine At.val (Val.bin rfl rfl rfl) rfl rfl rfl ?_
  rw [or_low hlt' (UInt8.toNat_lt _)]
  refine tA rfl rfl ?_
  refine At.nil ?_
  refine At.blkN ?_
  refine At.thenN ?_
  refine At.region ?_
  refine tM rfl rfl ?_
  first | refine At.val (Val.subI rfl rfl (by omega) (by omega)) rfl rfl rfl ?_ | refine At.val (Val.bin rfl rfl rfl) rfl rfl rfl ?_
  refine tA rfl rfl ?_
  refine tE ?_
  exact At.again (k - 1) (show k - 1 ≤ 8 by omega) (show k - 1 < k by omega) (Sub.cons rfl (Sub.cons (congrArg (fun z => some (Value.int IntKind.u64 z)) (by rw [show 8 - (k - 1) = 8 - k + 1 by omega, num_cons hq8, show k - 1 + 1 = k by omega])) (Sub.cons (congrArg (fun z => some (Value.int IntKind.i64 z)) (by omega)) Sub.nil))) (List.Perm.refl _)
 ·skip
  try simp only [hasB, isSizeB, Bool.not_eq_true', Bool.not_eq_false', bne_iff_ne, ne_eq, bne_eq_false_iff_eq, beq_iff_eq, beq_eq_false_iff_ne, decide_eq_true_eq, decide_eq_false_iff_not, gt_iff_lt, ge_iff_le] at h1
  obtain rfl : k = 0 := by omega
  refine At.exitC ?_
  refine At.thenX ?_
  refine At.thenX ?_
  refine At.blkX ?_
  refine At.thenN ?_
  refine tR ?_
  refine tM rfl rfl ?_
  refine tA rfl rfl ?_
  refine tE ?_
  refine At.retC ?_
  refine At.ret1 (.inl rfl) rfl rfl rfl (fun w hw => ?_)
  exact ⟨congrArg Ending.returned (wdA_val l 0), hw.mod⟩

theorem putW_r (b o m cc n c : Nat) (l : List UInt8) (x : BitVec 64) (w : World) (h8 : 8 ≤ m) (ho8 : o + 8 ≤ l.length) (hr : (brow 5 (.slice (some ⟨b, 0, none⟩) n c) l).holds w) :
    Upd Try.prog 23 [.slice (some ⟨b, o, none⟩) m cc, b64 x] (brow 5 (.slice (some ⟨b, 0, none⟩) n c) l) (.tuple #[]) (brow 5 (.slice (some ⟨b, 0, none⟩) n c) (put8 l o x)) w := by
 refine enter (feet [brow 5 (.slice (some ⟨b, 0, none⟩) n c) l]) [brow 5 (.slice (some ⟨b, 0, none⟩) n c) l] Try.func23 rfl Try.ntmps23 rfl (Rep.one hr) ?_
 simp only [envOf]
 refine tR ?_
 refine tM rfl rfl ?_
 refine tE ?_
 refine At.block ?_
 skip
 refine At.loop (σ := Nat) (fun k => k ≤ 8) (fun k => [(0, .slice (some ⟨b, o, none⟩) m cc), (1, b64 x), (5, .int .i64 (k : Int))]) (fun k => [brow 5 (.slice (some ⟨b, 0, none⟩) n c) (putK l o x k)]) (fun k => 8 - k) 0 (Nat.zero_le _) (Sub.cons rfl (Sub.cons rfl (Sub.cons rfl Sub.nil))) (by rw [putK_zero]) ?_
 intro k hs
 refine tR ?_
 refine At.val (Val.bin rfl rfl rfl) rfl rfl rfl ?_
 refine tE ?_
 refine At.seq ?_
 refine At.cond rfl (fun h1 => ?_) (fun h1 => ?_)
 ·skip
  try simp only [hasB, isSizeB, Bool.not_eq_true', Bool.not_eq_false', bne_iff_ne, ne_eq, bne_eq_false_iff_eq, beq_iff_eq, beq_eq_false_iff_ne, decide_eq_true_eq, decide_eq_false_iff_not, gt_iff_lt, ge_iff_le] at h1
  have hk : k < 8 := by omega
  refine At.skipC ?_
  refine At.thenN ?_
  refine At.seq ?_
  refine At.block ?_
  refine tR ?_
  refine tM rfl rfl ?_
  refine tA rfl rfl ?_
  refine tE ?_
  refine At.region ?_
  refine tM rfl rfl ?_
  refine tM rfl rfl ?_
  refine tM rfl rfl ?_
  refine tM rfl rfl ?_
  refine At.val (Val.mulI rfl rfl (by omega) (by omega)) rfl rfl rfl ?_
  refine At.val (Val.shr rfl rfl (by omega)) rfl rfl rfl ?_
  rw [shr_byte x hk]
  refine At.val (Val.toB Try.underlying32 Try.underlying5 rfl (Int.natCast_nonneg _)) rfl rfl rfl ?_
  rw [Int.toNat_natCast]
  refine At.val (Val.indexSl (o + k) (by omega) Try.underlying36 Try.sizeOf5 rfl rfl (by omega) (by omega)) rfl rfl rfl ?_
  have hpl := putK_length (l := l) (o := o) (k := k) x (by omega) (by omega)
  refine At.storeRowB (i := 0) Try.sizeOf5 rfl rfl rfl (by omega) ?_
  simp only [sc0, scS]
  rw [putK_step x (by omega) hk]
  refine At.nil ?_
  refine At.blkN ?_
  refine At.thenN ?_
  refine At.region ?_
  first | refine At.val (Val.addI rfl rfl (by omega) (by omega)) rfl rfl rfl ?_ | refine At.val (Val.bin rfl rfl rfl) rfl rfl rfl ?_
  refine tM rfl rfl ?_
  refine tE ?_
  exact At.again (k + 1) (show k + 1 ≤ 8 by omega) (by omega) (Sub.cons rfl (Sub.cons rfl (Sub.cons (congrArg (fun z => some (Value.int IntKind.i64 z)) (by omega)) Sub.nil))) (List.Perm.refl _)
 ·skip
  try simp only [hasB, isSizeB, Bool.not_eq_true', Bool.not_eq_false', bne_iff_ne, ne_eq, bne_eq_false_iff_eq, beq_iff_eq, beq_eq_false_iff_ne, decide_eq_true_eq, decide_eq_false_iff_not, gt_iff_lt, ge_iff_le] at h1
  obtain rfl : k = 8 := by omega
  refine At.exitC ?_
  refine At.thenX ?_
  refine At.thenX ?_
  refine At.blkX ?_
  refine At.ret0 (.inr rfl) rfl rfl  (fun w hw => ?_)
  exact ⟨rfl, hw⟩

theorem putW_b (b U : Nat) (cs : List Value) (x : BitVec 64) (w : World) (hcs : cs.length = 8) (hr : (blk b U cs).holds w) :
    Upd Try.prog 23 [.slice (some ⟨b, 0, none⟩) 8 8, b64 x] (blk b U cs) (.tuple #[]) (blk b U ((le8 x).map bv)) w := by
 refine enter (feet [blk b U cs]) [blk b U cs] Try.func23 rfl Try.ntmps23 rfl (Rep.one hr) ?_
 have hll : ((le8 x).map bv).length = cs.length := by rw [List.length_map, le_length, hcs]
 simp only [envOf]
 refine tR ?_
 refine tM rfl rfl ?_
 refine tE ?_
 refine At.block ?_
 skip
 refine At.loop (σ := Nat) (fun k => k ≤ 8) (fun k => [(0, .slice (some ⟨b, 0, none⟩) 8 8), (1, b64 x), (5, .int .i64 (k : Int))]) (fun k => [blk b U (fillG ((le8 x).map bv) cs k)]) (fun k => 8 - k) 0 (Nat.zero_le _) (Sub.cons rfl (Sub.cons rfl (Sub.cons rfl Sub.nil))) (by rw [fillG_zero]) ?_
 intro k hs
 refine tR ?_
 refine At.val (Val.bin rfl rfl rfl) rfl rfl rfl ?_
 refine tE ?_
 refine At.seq ?_
 refine At.cond rfl (fun h1 => ?_) (fun h1 => ?_)
 ·skip
  try simp only [hasB, isSizeB, Bool.not_eq_true', Bool.not_eq_false', bne_iff_ne, ne_eq, bne_eq_false_iff_eq, beq_iff_eq, beq_eq_false_iff_ne, decide_eq_true_eq, decide_eq_false_iff_not, gt_iff_lt, ge_iff_le] at h1
  have hk : k < 8 := by omega
  refine At.skipC ?_
  refine At.thenN ?_
  refine At.seq ?_
  refine At.block ?_
  refine tR ?_
  refine tM rfl rfl ?_
  refine tA rfl rfl ?_
  refine tE ?_
  refine At.region ?_
  refine tM rfl rfl ?_
  refine tM rfl rfl ?_
  refine tM rfl rfl ?_
  refine tM rfl rfl ?_
  refine At.val (Val.mulI rfl rfl (by omega) (by omega)) rfl rfl rfl ?_
  refine At.val (Val.shr rfl rfl (by omega)) rfl rfl rfl ?_
  rw [shr_byte x hk]
  refine At.val (Val.toB Try.underlying32 Try.underlying5 rfl (Int.natCast_nonneg _)) rfl rfl rfl ?_
  rw [Int.toNat_natCast]
  refine At.val (Val.indexSl k (by omega) Try.underlying36 Try.sizeOf5 rfl rfl (by omega) (by omega)) rfl rfl rfl ?_
  have hfl := fillG_length hll k
  refine At.store (i := 0) Try.sizeOf5 rfl rfl rfl rfl (by rw [hfl, List.length_map, le_length]; exact hk) ?_
  simp only [sc0, scS]
  rw [fillG_step (by rw [List.getElem?_map, le_get 8 _ k hk]; rfl) hll]
  refine At.nil ?_
  refine At.blkN ?_
  refine At.thenN ?_
  refine At.region ?_
  first | refine At.val (Val.addI rfl rfl (by omega) (by omega)) rfl rfl rfl ?_ | refine At.val (Val.bin rfl rfl rfl) rfl rfl rfl ?_
  refine tM rfl rfl ?_
  refine tE ?_
  exact At.again (k + 1) (show k + 1 ≤ 8 by omega) (by omega) (Sub.cons rfl (Sub.cons rfl (Sub.cons (congrArg (fun z => some (Value.int IntKind.i64 z)) (by omega)) Sub.nil))) (List.Perm.refl _)
 ·skip
  try simp only [hasB, isSizeB, Bool.not_eq_true', Bool.not_eq_false', bne_iff_ne, ne_eq, bne_eq_false_iff_eq, beq_iff_eq, beq_eq_false_iff_ne, decide_eq_true_eq, decide_eq_false_iff_not, gt_iff_lt, ge_iff_le] at h1
  obtain rfl : k = 8 := by omega
  refine At.exitC ?_
  refine At.thenX ?_
  refine At.thenX ?_
  refine At.blkX ?_
  refine At.ret0 (.inr rfl) rfl rfl  (fun w hw => ?_)
  rw [fillG_all (by rw [List.length_map, le_length]) hcs] at hw
  exact ⟨rfl, hw⟩

theorem now_k (p : Nat) (γ : Gh) (σ : Ds) (k : Nat) (wd : Wd) (w : World) (hk : σ.ws[k]? = some wd) (hd : (Dev p γ σ).holds w) :
    Upd Try.prog 24 [.pointer (some ⟨p, 0, none⟩), .int .i64 (8 * (k : Int))] (Dev p γ σ) (b64 (nowW wd)) (Dev p γ σ) w := by
 refine enterV hd Try.func24 rfl Try.ntmps24 rfl ?_
 unfold devL
 have hgd := Dev.good hd
 have hln := hgd.len
 have hkl := (List.getElem?_eq_some_iff.1 hk).1
 have hst := hgd.steps
 have hwd := hgd.word wd (List.mem_of_getElem? hk)
 simp only [envOf]
 refine tR ?_
 refine tA rfl rfl ?_
 refine tE ?_
 refine At.seq ?_
 refine tR ?_
 refine tM rfl rfl ?_
 refine At.val (Val.nilCheck rfl) rfl rfl rfl ?_
 refine At.val (Val.field 1 rfl fo_71_1 rfl) rfl rfl rfl ?_
 refine At.val (Val.load (i := 0) Try.isAgg69 rfl rfl rfl) rfl rfl rfl ?_
 refine tM rfl rfl ?_
 refine At.val (Val.look (i := 2) Try.underlying69 Try.underlying3 Try.zeroValue65 rfl rfl rfl) rfl rfl rfl ?_
 by_cases hn : wd.news = []
 ·skip
  rw [mk_at, mkN_none hk hn]
  refine tA rfl rfl ?_
  refine tE ?_
  refine tR ?_
  refine tM rfl rfl ?_
  refine At.val (Val.neNil (t := 65) (by kernel_rfl) rfl) rfl rfl rfl ?_
  refine tE ?_
  refine At.condF rfl ?_
  refine At.skipC ?_
  refine At.thenN ?_
  refine tR ?_
  refine tM rfl rfl ?_
  refine At.val (Val.nilCheck rfl) rfl rfl rfl ?_
  refine At.val (Val.field 0 rfl fo_71_0 rfl) rfl rfl rfl ?_
  refine At.val (Val.load (i := 0) Try.isAgg66 rfl rfl rfl) rfl rfl rfl ?_
  refine tM rfl rfl ?_
  refine At.val (Val.quoI rfl rfl (by omega) (by omega) (by decide)) rfl rfl rfl ?_
  rw [show 8 * (k : Int) / 8 = (k : Int) from by omega]
  refine At.val (Val.indexRow (i := 1) k (by omega) Try.underlying66 Try.sizeOf32 rfl rfl rfl (by omega) (by rw [olds_length]; omega)) rfl rfl rfl ?_
  refine At.val (Val.loadRow (i := 1) Try.isAgg32 rfl rfl (by rw [List.getElem?_map, olds_at hk]; rfl)) rfl rfl rfl ?_
  refine tA rfl rfl ?_
  refine tE ?_
  refine At.retC ?_
  refine At.ret1 (.inl rfl) rfl rfl rfl (fun w hw => ?_)
  exact ⟨congrArg (fun z => Ending.returned (b64 z)) (now_old hn).symm, retK (F := []) hw⟩
 ·skip
  rw [mk_at, mkN_some hk hn]
  have hpos := List.length_pos_iff.2 hn
  refine tA rfl rfl ?_
  refine tE ?_
  refine tR ?_
  refine tM rfl rfl ?_
  refine At.val (Val.neNil (t := 65) (by kernel_rfl) rfl) rfl rfl rfl ?_
  refine tE ?_
  refine At.condT rfl ?_
  refine At.seq ?_
  refine At.dbtSome 3 rfl hk hn (fun b o c hv => ?_)
  refine At.quiet rfl (by decide +kernel) ?_
  refine qM rfl rfl ?_
  refine QAt.val (Val.nilCheck rfl) rfl rfl rfl ?_
  refine QAt.val (Val.field 0 rfl fo_68_0 rfl) rfl rfl rfl ?_
  refine QAt.val (Val.loadDbt (i := 3) Try.isAgg66 rfl rfl hk hn rfl) rfl rfl rfl ?_
  refine qM rfl rfl ?_
  refine QAt.val (Val.nilCheck rfl) rfl rfl rfl ?_
  refine QAt.val (Val.field 0 rfl fo_68_0 rfl) rfl rfl rfl ?_
  refine QAt.val (Val.loadDbt (i := 3) Try.isAgg66 rfl rfl hk hn rfl) rfl rfl rfl ?_
  refine QAt.val (Val.lenDbt (i := 3) rfl hk hn Try.underlying66 rfl) rfl rfl rfl ?_
  refine QAt.val (Val.subI rfl rfl (by omega) (by omega)) rfl rfl rfl ?_
  rw [hv]
  refine QAt.val (Val.indexSl (o + (wd.news.length - 1)) (by omega) Try.underlying66 Try.sizeOf32 rfl rfl (by omega) (by omega)) rfl rfl rfl ?_
  refine QAt.val (Val.loadNews (i := 3) Try.isAgg32 rfl rfl hk hn hv rfl (now_last hn (y := nowW wd) rfl)) rfl rfl rfl ?_
  refine QAt.val (Val.assign rfl) rfl rfl rfl ?_
  refine QAt.fin ?_
  refine At.thenN ?_
  refine At.retC ?_
  refine At.thenR ?_
  refine At.ret1 (.inl rfl) rfl rfl rfl (fun w hw => ?_)
  exact ⟨rfl, retK (F := []) hw⟩

end Go.Proofs.Ytgighokkflchmaa
