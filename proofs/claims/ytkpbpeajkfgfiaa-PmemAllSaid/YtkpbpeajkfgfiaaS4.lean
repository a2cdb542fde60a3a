/- The exact laws: every script. -/
import Derived.Test.YtkpbpeajkfgfiaaS3
set_option linter.unusedVariables false
set_option linter.unusedSimpArgs false
namespace Go.Proofs.Ytkpbpeajkfgfiaa
open Go Go.Wk
theorem plays_k (b m : Nat) (B : List Pr) (kd dd a n : Int) (x : BitVec 64) (vB vL : Value) (lB : List UInt8) (cs : List Int) (w : World) (hvB : RdB w vB lB) (hvL : RdI w vL cs) (hoB : Off vB (lB.map bv) (feet [BookR b B m])) (hoL : Off vL (cs.map (Value.int .i64)) (feet [BookR b B m])) (hbl : lB.length ≤ 140737488355328) (hcl : cs.length ≤ 17592186044416) (hn : n ≤ 9223372036854775807) (hm : m ≤ 1000000000) (hd : (BookR b B m).holds w) :
    BookP Try.prog 72 [.pointer (some ⟨b, 0, none⟩), .agg #[.int .i64 kd, .int .i64 dd, .int .i64 a, .int .i64 n, b64 x, vB, vL]] b B m w := by
 refine enter (feet [BookR b B m]) [BookR b B m] Try.func72 rfl Try.ntmps72 rfl (Rep.one hd) ?_
 have hok := BookR.ok hd
 have h3 := hok.1
 obtain ⟨d, hde⟩ : ∃ d, d = wordI dd 3 := ⟨_, rfl⟩
 have hd3 := wordI_lt dd (N := 3) (by decide)
 rw [← hde] at hd3
 obtain ⟨z0, hz⟩ : ∃ z, B[d]? = some z := ⟨_, List.getElem?_eq_getElem (by omega)⟩
 obtain ⟨hsim, hwl, hst⟩ := hok.2 z0 (List.mem_of_getElem? hz)
 simp only [envOf]
 refine tR ?_
 refine At.box rfl rfl rfl (fun b1 => ?_)
 refine tA rfl rfl ?_
 refine tE ?_
 refine tR ?_
 refine At.val (Val.field 1 rfl fo_118_1 rfl) rfl rfl rfl ?_
 refine At.val (Val.load (i := 0) Try.isAgg3 rfl rfl rfl) rfl rfl rfl ?_
 refine At.callP (fun w hw => place3_p _ w) Try.call76 rfl rfl ?_
 refine tA rfl rfl ?_
 refine At.nil ?_
 rw [← hde]
 refine At.thenN ?_
 refine At.seq ?_
 refine At.block ?_
 refine tR ?_
 refine At.val (Val.field 0 rfl fo_118_0 rfl) rfl rfl rfl ?_
 refine At.val (Val.load (i := 0) Try.isAgg3 rfl rfl rfl) rfl rfl rfl ?_
 refine At.val (Val.bin rfl rfl rfl) rfl rfl rfl ?_
 refine At.weaken [(0, _), (1, _), (3, _), (4, _), (6, _), (7, _), (8, _), (5, _), (12, _)] (Sub.cons rfl (Sub.cons rfl (Sub.cons rfl (Sub.cons rfl (Sub.cons rfl (Sub.cons rfl (Sub.cons rfl (Sub.cons rfl (Sub.cons rfl Sub.nil))))))))) ?_
 refine At.boolMeet 5 17 (decide (1 ≤ kd ∧ kd ≤ 3)) ?_ ?_
 ·skip
  simp only [List.take_succ_cons, List.take_zero]
  refine tM rfl rfl ?_
  refine At.split (t := 13) rfl (fun h2 => ?_) (fun h2 => ?_)
  ·skip
   try simp only [hasB, isSizeB, Bool.not_eq_true', Bool.not_eq_false', bne_iff_ne, ne_eq, bne_eq_false_iff_eq, beq_iff_eq, beq_eq_false_iff_ne, decide_eq_true_eq, decide_eq_false_iff_not, gt_iff_lt, ge_iff_le] at h2
   refine At.yes rfl rfl ?_
   refine At.val (Val.field 0 rfl fo_118_0 rfl) rfl rfl rfl ?_
   refine At.yes rfl rfl ?_
   refine At.val (Val.load (i := 0) Try.isAgg3 rfl rfl rfl) rfl rfl rfl ?_
   refine At.yes rfl rfl ?_
   refine At.val (Val.bin rfl rfl rfl) rfl rfl rfl ?_
   refine At.val (Val.pickT rfl rfl) rfl rfl rfl ?_
   refine At.nil ?_
   exact At.boolEnd rfl (by apply Bool.eq_iff_iff.2; (simp only [decide_eq_true_eq, Bool.false_eq_true, false_iff, true_iff, gt_iff_lt, ge_iff_le]) <;> omega) (by repeat (first | exact Sub.nil | refine Sub.cons rfl ?_))
  ·skip
   try simp only [hasB, isSizeB, Bool.not_eq_true', Bool.not_eq_false', bne_iff_ne, ne_eq, bne_eq_false_iff_eq, beq_iff_eq, beq_eq_false_iff_ne, decide_eq_true_eq, decide_eq_false_iff_not, gt_iff_lt, ge_iff_le] at h2
   refine At.no rfl rfl rfl rfl ?_
   refine At.no rfl rfl rfl rfl ?_
   refine At.no rfl rfl rfl rfl ?_
   refine At.val (Val.pickF rfl rfl) rfl rfl rfl ?_
   refine At.nil ?_
   exact At.boolEnd rfl (by apply Bool.eq_iff_iff.2; (simp only [decide_eq_true_eq, Bool.false_eq_true, false_iff, true_iff, gt_iff_lt, ge_iff_le]) <;> omega) (by repeat (first | exact Sub.nil | refine Sub.cons rfl ?_))
 ·skip
  simp only [List.drop_succ_cons, List.drop_zero]
  refine tA rfl rfl ?_
  refine tE ?_
  refine At.cond rfl (fun h3 => ?_) (fun h3 => ?_)
  ·skip
   try simp only [hasB, isSizeB, Bool.not_eq_true', Bool.not_eq_false', bne_iff_ne, ne_eq, bne_eq_false_iff_eq, beq_iff_eq, beq_eq_false_iff_ne, decide_eq_true_eq, decide_eq_false_iff_not, gt_iff_lt, ge_iff_le] at h3
   refine tR ?_
   refine tM rfl rfl ?_
   refine At.val (Val.loadAll (i := 0) Try.isAgg118 Try.sizeOf118 rfl rfl rfl) rfl rfl rfl ?_
   refine At.callBP 1 rfl (fun w hw hr => make_k b m B kd dd a n x vB vL lB cs w (hvB.keep hw hoB) (hvL.keep hw hoL) (Rep.offOld hw hvB hoB (List.mem_of_getElem? (i := 1) rfl)) (Rep.offOld hw hvL hoL (List.mem_of_getElem? (i := 1) rfl)) hbl hcl hn hm hr) Try.call77 rfl rfl (fun B2 => ?_)
   simp only [sc0, scS]
   refine tA rfl rfl ?_
   refine tE ?_
   refine At.retC ?_
   refine At.blkR ?_
   refine At.thenR ?_
   refine At.ret1 (.inl rfl) rfl rfl rfl (fun w hw => ?_)
   exact ⟨B2, rfl, hw.drop (List.singleton_sublist.2 (List.mem_of_getElem? (i := 1) rfl))⟩
  ·skip
   try simp only [hasB, isSizeB, Bool.not_eq_true', Bool.not_eq_false', bne_iff_ne, ne_eq, bne_eq_false_iff_eq, beq_iff_eq, beq_eq_false_iff_ne, decide_eq_true_eq, decide_eq_false_iff_not, gt_iff_lt, ge_iff_le] at h3
   refine tR ?_
   refine At.val (Val.field 0 rfl fo_118_0 rfl) rfl rfl rfl ?_
   refine At.val (Val.load (i := 0) Try.isAgg3 rfl rfl rfl) rfl rfl rfl ?_
   refine At.val (Val.bin rfl rfl rfl) rfl rfl rfl ?_
   refine At.weaken [(0, _), (1, _), (3, _), (4, _), (6, _), (7, _), (8, _), (5, _), (12, _), (17, _), (9, _), (24, _)] (Sub.cons rfl (Sub.cons rfl (Sub.cons rfl (Sub.cons rfl (Sub.cons rfl (Sub.cons rfl (Sub.cons rfl (Sub.cons rfl (Sub.cons rfl (Sub.cons rfl (Sub.cons rfl (Sub.cons rfl Sub.nil)))))))))))) ?_
   refine At.boolMeet 5 29 (decide (4 ≤ kd ∧ kd ≤ 6)) ?_ ?_
   ·skip
    simp only [List.take_succ_cons, List.take_zero]
    refine tM rfl rfl ?_
    refine At.split (t := 25) rfl (fun h4 => ?_) (fun h4 => ?_)
    ·skip
     try simp only [hasB, isSizeB, Bool.not_eq_true', Bool.not_eq_false', bne_iff_ne, ne_eq, bne_eq_false_iff_eq, beq_iff_eq, beq_eq_false_iff_ne, decide_eq_true_eq, decide_eq_false_iff_not, gt_iff_lt, ge_iff_le] at h4
     refine At.yes rfl rfl ?_
     refine At.val (Val.field 0 rfl fo_118_0 rfl) rfl rfl rfl ?_
     refine At.yes rfl rfl ?_
     refine At.val (Val.load (i := 0) Try.isAgg3 rfl rfl rfl) rfl rfl rfl ?_
     refine At.yes rfl rfl ?_
     refine At.val (Val.bin rfl rfl rfl) rfl rfl rfl ?_
     refine At.val (Val.pickT rfl rfl) rfl rfl rfl ?_
     refine At.nil ?_
     exact At.boolEnd rfl (by apply Bool.eq_iff_iff.2; (simp only [decide_eq_true_eq, Bool.false_eq_true, false_iff, true_iff, gt_iff_lt, ge_iff_le]) <;> omega) (by repeat (first | exact Sub.nil | refine Sub.cons rfl ?_))
    ·skip
     try simp only [hasB, isSizeB, Bool.not_eq_true', Bool.not_eq_false', bne_iff_ne, ne_eq, bne_eq_false_iff_eq, beq_iff_eq, beq_eq_false_iff_ne, decide_eq_true_eq, decide_eq_false_iff_not, gt_iff_lt, ge_iff_le] at h4
     refine At.no rfl rfl rfl rfl ?_
     refine At.no rfl rfl rfl rfl ?_
     refine At.no rfl rfl rfl rfl ?_
     refine At.val (Val.pickF rfl rfl) rfl rfl rfl ?_
     refine At.nil ?_
     exact At.boolEnd rfl (by apply Bool.eq_iff_iff.2; (simp only [decide_eq_true_eq, Bool.false_eq_true, false_iff, true_iff, gt_iff_lt, ge_iff_le]) <;> omega) (by repeat (first | exact Sub.nil | refine Sub.cons rfl ?_))
   ·skip
    simp only [List.drop_succ_cons, List.drop_zero]
    refine tA rfl rfl ?_
    refine tE ?_
    refine At.cond rfl (fun h5 => ?_) (fun h5 => ?_)
    ·skip
     try simp only [hasB, isSizeB, Bool.not_eq_true', Bool.not_eq_false', bne_iff_ne, ne_eq, bne_eq_false_iff_eq, beq_iff_eq, beq_eq_false_iff_ne, decide_eq_true_eq, decide_eq_false_iff_not, gt_iff_lt, ge_iff_le] at h5
     refine At.seq ?_
     refine At.openS 1 rfl ?_
     simp only [bookL, List.cons_append, List.nil_append, ec0, ecS]
     refine At.tail 13 rfl (by decide +kernel) ?_
     simp only [List.take_succ_cons, List.take_zero, List.drop_succ_cons, List.drop_zero]
     refine qM rfl rfl ?_
     refine qM rfl rfl ?_
     refine QAt.val (Val.nilCheck rfl) rfl rfl rfl ?_
     refine QAt.val (Val.field 0 rfl fo_126_0 rfl) rfl rfl rfl ?_
     refine QAt.val (Val.indexArr (b := b) (o := 0) (d) (by omega) Try.underlying122 Try.sizeOf25 rfl rfl (by omega) (by omega)) rfl rfl rfl ?_
     refine QAt.val (Val.load (i := 0) Try.isAgg25 rfl rfl (bC_p (by omega) hz)) rfl rfl rfl ?_
     refine qM rfl rfl ?_
     refine qM rfl rfl ?_
     refine QAt.val (Val.nilCheck rfl) rfl rfl rfl ?_
     refine QAt.val (Val.field 3 rfl fo_126_1 rfl) rfl rfl rfl ?_
     refine QAt.val (Val.indexArr (b := b) (o := 3) (3 + d) (by omega) Try.underlying124 Try.sizeOf123 rfl rfl (by omega) (by omega)) rfl rfl rfl ?_
     refine QAt.val (Val.load (i := 0) Try.isAgg123 rfl rfl (bC_q (by omega) hz)) rfl rfl rfl ?_
     refine QAt.val (Val.loadAll (i := 3) Try.isAgg118 Try.sizeOf118 rfl rfl rfl) rfl rfl rfl ?_
     refine QAt.fin ?_
     refine At.callK 1 rfl (fun w hw hr => pair_keep hz hr (looks_k _ _ _ _ _ _ kd dd a n x vB vL w hsim (pr_of hr hz))) Try.call78 rfl rfl ?_
     refine tA rfl rfl ?_
     refine tE ?_
     refine At.retC ?_
     refine At.blkR ?_
     refine At.thenR ?_
     refine At.ret1 (.inl rfl) rfl rfl rfl (fun w hw => ?_)
     exact ⟨B, rfl, toBook (bok_more hok (Nat.le_add_right _ _)) hw⟩
    ·skip
     try simp only [hasB, isSizeB, Bool.not_eq_true', Bool.not_eq_false', bne_iff_ne, ne_eq, bne_eq_false_iff_eq, beq_iff_eq, beq_eq_false_iff_ne, decide_eq_true_eq, decide_eq_false_iff_not, gt_iff_lt, ge_iff_le] at h5
     refine tR ?_
     refine At.val (Val.field 0 rfl fo_118_0 rfl) rfl rfl rfl ?_
     refine At.val (Val.load (i := 0) Try.isAgg3 rfl rfl rfl) rfl rfl rfl ?_
     refine At.val (Val.bin rfl rfl rfl) rfl rfl rfl ?_
     refine At.weaken [(0, _), (1, _), (3, _), (4, _), (6, _), (7, _), (8, _), (5, _), (12, _), (17, _), (9, _), (24, _), (29, _), (21, _), (47, _)] (Sub.cons rfl (Sub.cons rfl (Sub.cons rfl (Sub.cons rfl (Sub.cons rfl (Sub.cons rfl (Sub.cons rfl (Sub.cons rfl (Sub.cons rfl (Sub.cons rfl (Sub.cons rfl (Sub.cons rfl (Sub.cons rfl (Sub.cons rfl (Sub.cons rfl Sub.nil))))))))))))))) ?_
     refine At.boolMeet 5 52 (decide (7 ≤ kd ∧ kd ≤ 14)) ?_ ?_
     ·skip
      simp only [List.take_succ_cons, List.take_zero]
      refine tM rfl rfl ?_
      refine At.split (t := 48) rfl (fun h6 => ?_) (fun h6 => ?_)
      ·skip
       try simp only [hasB, isSizeB, Bool.not_eq_true', Bool.not_eq_false', bne_iff_ne, ne_eq, bne_eq_false_iff_eq, beq_iff_eq, beq_eq_false_iff_ne, decide_eq_true_eq, decide_eq_false_iff_not, gt_iff_lt, ge_iff_le] at h6
       refine At.yes rfl rfl ?_
       refine At.val (Val.field 0 rfl fo_118_0 rfl) rfl rfl rfl ?_
       refine At.yes rfl rfl ?_
       refine At.val (Val.load (i := 0) Try.isAgg3 rfl rfl rfl) rfl rfl rfl ?_
       refine At.yes rfl rfl ?_
       refine At.val (Val.bin rfl rfl rfl) rfl rfl rfl ?_
       refine At.val (Val.pickT rfl rfl) rfl rfl rfl ?_
       refine At.nil ?_
       exact At.boolEnd rfl (by apply Bool.eq_iff_iff.2; (simp only [decide_eq_true_eq, Bool.false_eq_true, false_iff, true_iff, gt_iff_lt, ge_iff_le]) <;> omega) (by repeat (first | exact Sub.nil | refine Sub.cons rfl ?_))
      ·skip
       try simp only [hasB, isSizeB, Bool.not_eq_true', Bool.not_eq_false', bne_iff_ne, ne_eq, bne_eq_false_iff_eq, beq_iff_eq, beq_eq_false_iff_ne, decide_eq_true_eq, decide_eq_false_iff_not, gt_iff_lt, ge_iff_le] at h6
       refine At.no rfl rfl rfl rfl ?_
       refine At.no rfl rfl rfl rfl ?_
       refine At.no rfl rfl rfl rfl ?_
       refine At.val (Val.pickF rfl rfl) rfl rfl rfl ?_
       refine At.nil ?_
       exact At.boolEnd rfl (by apply Bool.eq_iff_iff.2; (simp only [decide_eq_true_eq, Bool.false_eq_true, false_iff, true_iff, gt_iff_lt, ge_iff_le]) <;> omega) (by repeat (first | exact Sub.nil | refine Sub.cons rfl ?_))
     ·skip
      simp only [List.drop_succ_cons, List.drop_zero]
      refine tA rfl rfl ?_
      refine tE ?_
      refine At.cond rfl (fun h7 => ?_) (fun h7 => ?_)
      ·skip
       try simp only [hasB, isSizeB, Bool.not_eq_true', Bool.not_eq_false', bne_iff_ne, ne_eq, bne_eq_false_iff_eq, beq_iff_eq, beq_eq_false_iff_ne, decide_eq_true_eq, decide_eq_false_iff_not, gt_iff_lt, ge_iff_le] at h7
       refine At.seq ?_
       refine At.openS 1 rfl ?_
       simp only [bookL, List.cons_append, List.nil_append, ec0, ecS]
       refine At.tail 13 rfl (by decide +kernel) ?_
       simp only [List.take_succ_cons, List.take_zero, List.drop_succ_cons, List.drop_zero]
       refine qM rfl rfl ?_
       refine qM rfl rfl ?_
       refine QAt.val (Val.nilCheck rfl) rfl rfl rfl ?_
       refine QAt.val (Val.field 0 rfl fo_126_0 rfl) rfl rfl rfl ?_
       refine QAt.val (Val.indexArr (b := b) (o := 0) (d) (by omega) Try.underlying122 Try.sizeOf25 rfl rfl (by omega) (by omega)) rfl rfl rfl ?_
       refine QAt.val (Val.load (i := 0) Try.isAgg25 rfl rfl (bC_p (by omega) hz)) rfl rfl rfl ?_
       refine qM rfl rfl ?_
       refine qM rfl rfl ?_
       refine QAt.val (Val.nilCheck rfl) rfl rfl rfl ?_
       refine QAt.val (Val.field 3 rfl fo_126_1 rfl) rfl rfl rfl ?_
       refine QAt.val (Val.indexArr (b := b) (o := 3) (3 + d) (by omega) Try.underlying124 Try.sizeOf123 rfl rfl (by omega) (by omega)) rfl rfl rfl ?_
       refine QAt.val (Val.load (i := 0) Try.isAgg123 rfl rfl (bC_q (by omega) hz)) rfl rfl rfl ?_
       refine QAt.val (Val.loadAll (i := 3) Try.isAgg118 Try.sizeOf118 rfl rfl rfl) rfl rfl rfl ?_
       refine QAt.fin ?_
       refine At.callFP 1 rfl (fun w hw hr => pair_P hz hr (stepsB_k _ _ _ _ _ _ kd dd a n x vB vL w hsim lB (hvB.keep hw hoB) (Off.sub (Rep.offOld hw hvB hoB (List.mem_of_getElem? (i := 1) rfl)) (feet_pr hz)) hbl hn (by omega) (pr_of hr hz))) Try.call79 rfl rfl (fun z1 hz1 => ?_)
       simp only [sc0, scS]
       refine tA rfl rfl ?_
       refine tE ?_
       refine At.retC ?_
       refine At.blkR ?_
       refine At.thenR ?_
       refine At.ret1 (.inl rfl) rfl rfl rfl (fun w hw => ?_)
       obtain ⟨hp1, hq1, hs1, hl1, ht1⟩ := hz1
       rw [← bC_keep hz hp1 hq1] at hw
       exact ⟨B.set d z1, rfl, toBook (bok_set hok (Nat.le_add_right _ _) ⟨hs1, by omega, by omega⟩) hw⟩
      ·skip
       try simp only [hasB, isSizeB, Bool.not_eq_true', Bool.not_eq_false', bne_iff_ne, ne_eq, bne_eq_false_iff_eq, beq_iff_eq, beq_eq_false_iff_ne, decide_eq_true_eq, decide_eq_false_iff_not, gt_iff_lt, ge_iff_le] at h7
       refine tR ?_
       refine At.val (Val.field 0 rfl fo_118_0 rfl) rfl rfl rfl ?_
       refine At.val (Val.load (i := 0) Try.isAgg3 rfl rfl rfl) rfl rfl rfl ?_
       refine At.val (Val.bin rfl rfl rfl) rfl rfl rfl ?_
       refine At.weaken [(0, _), (1, _), (3, _), (4, _), (6, _), (7, _), (8, _), (5, _), (12, _), (17, _), (9, _), (24, _), (29, _), (21, _), (47, _), (52, _), (44, _), (70, _)] (Sub.cons rfl (Sub.cons rfl (Sub.cons rfl (Sub.cons rfl (Sub.cons rfl (Sub.cons rfl (Sub.cons rfl (Sub.cons rfl (Sub.cons rfl (Sub.cons rfl (Sub.cons rfl (Sub.cons rfl (Sub.cons rfl (Sub.cons rfl (Sub.cons rfl (Sub.cons rfl (Sub.cons rfl (Sub.cons rfl Sub.nil)))))))))))))))))) ?_
       refine At.boolMeet 5 75 (decide (15 ≤ kd ∧ kd ≤ 17)) ?_ ?_
       ·skip
        simp only [List.take_succ_cons, List.take_zero]
        refine tM rfl rfl ?_
        refine At.split (t := 71) rfl (fun h8 => ?_) (fun h8 => ?_)
        ·skip
         try simp only [hasB, isSizeB, Bool.not_eq_true', Bool.not_eq_false', bne_iff_ne, ne_eq, bne_eq_false_iff_eq, beq_iff_eq, beq_eq_false_iff_ne, decide_eq_true_eq, decide_eq_false_iff_not, gt_iff_lt, ge_iff_le] at h8
         refine At.yes rfl rfl ?_
         refine At.val (Val.field 0 rfl fo_118_0 rfl) rfl rfl rfl ?_
         refine At.yes rfl rfl ?_
         refine At.val (Val.load (i := 0) Try.isAgg3 rfl rfl rfl) rfl rfl rfl ?_
         refine At.yes rfl rfl ?_
         refine At.val (Val.bin rfl rfl rfl) rfl rfl rfl ?_
         refine At.val (Val.pickT rfl rfl) rfl rfl rfl ?_
         refine At.nil ?_
         exact At.boolEnd rfl (by apply Bool.eq_iff_iff.2; (simp only [decide_eq_true_eq, Bool.false_eq_true, false_iff, true_iff, gt_iff_lt, ge_iff_le]) <;> omega) (by repeat (first | exact Sub.nil | refine Sub.cons rfl ?_))
        ·skip
         try simp only [hasB, isSizeB, Bool.not_eq_true', Bool.not_eq_false', bne_iff_ne, ne_eq, bne_eq_false_iff_eq, beq_iff_eq, beq_eq_false_iff_ne, decide_eq_true_eq, decide_eq_false_iff_not, gt_iff_lt, ge_iff_le] at h8
         refine At.no rfl rfl rfl rfl ?_
         refine At.no rfl rfl rfl rfl ?_
         refine At.no rfl rfl rfl rfl ?_
         refine At.val (Val.pickF rfl rfl) rfl rfl rfl ?_
         refine At.nil ?_
         exact At.boolEnd rfl (by apply Bool.eq_iff_iff.2; (simp only [decide_eq_true_eq, Bool.false_eq_true, false_iff, true_iff, gt_iff_lt, ge_iff_le]) <;> omega) (by repeat (first | exact Sub.nil | refine Sub.cons rfl ?_))
       ·skip
        simp only [List.drop_succ_cons, List.drop_zero]
        refine tA rfl rfl ?_
        refine tE ?_
        refine At.cond rfl (fun h9 => ?_) (fun h9 => ?_)
        ·skip
         try simp only [hasB, isSizeB, Bool.not_eq_true', Bool.not_eq_false', bne_iff_ne, ne_eq, bne_eq_false_iff_eq, beq_iff_eq, beq_eq_false_iff_ne, decide_eq_true_eq, decide_eq_false_iff_not, gt_iff_lt, ge_iff_le] at h9
         refine At.seq ?_
         refine At.openS 1 rfl ?_
         simp only [bookL, List.cons_append, List.nil_append, ec0, ecS]
         refine At.tail 13 rfl (by decide +kernel) ?_
         simp only [List.take_succ_cons, List.take_zero, List.drop_succ_cons, List.drop_zero]
         refine qM rfl rfl ?_
         refine qM rfl rfl ?_
         refine QAt.val (Val.nilCheck rfl) rfl rfl rfl ?_
         refine QAt.val (Val.field 0 rfl fo_126_0 rfl) rfl rfl rfl ?_
         refine QAt.val (Val.indexArr (b := b) (o := 0) (d) (by omega) Try.underlying122 Try.sizeOf25 rfl rfl (by omega) (by omega)) rfl rfl rfl ?_
         refine QAt.val (Val.load (i := 0) Try.isAgg25 rfl rfl (bC_p (by omega) hz)) rfl rfl rfl ?_
         refine qM rfl rfl ?_
         refine qM rfl rfl ?_
         refine QAt.val (Val.nilCheck rfl) rfl rfl rfl ?_
         refine QAt.val (Val.field 3 rfl fo_126_1 rfl) rfl rfl rfl ?_
         refine QAt.val (Val.indexArr (b := b) (o := 3) (3 + d) (by omega) Try.underlying124 Try.sizeOf123 rfl rfl (by omega) (by omega)) rfl rfl rfl ?_
         refine QAt.val (Val.load (i := 0) Try.isAgg123 rfl rfl (bC_q (by omega) hz)) rfl rfl rfl ?_
         refine QAt.val (Val.loadAll (i := 3) Try.isAgg118 Try.sizeOf118 rfl rfl rfl) rfl rfl rfl ?_
         refine QAt.fin ?_
         refine At.callK 1 rfl (fun w hw hr => pair_keep hz hr (tells_k _ _ _ _ _ _ kd dd a n x vB vL w hsim cs (hvL.keep hw hoL) (Off.sub (Rep.offOld hw hvL hoL (List.mem_of_getElem? (i := 1) rfl)) (feet_pr hz)) hcl (by omega) (pr_of hr hz))) Try.call80 rfl rfl ?_
         refine tA rfl rfl ?_
         refine tE ?_
         refine At.retC ?_
         refine At.blkR ?_
         refine At.thenR ?_
         refine At.ret1 (.inl rfl) rfl rfl rfl (fun w hw => ?_)
         exact ⟨B, rfl, toBook (bok_more hok (Nat.le_add_right _ _)) hw⟩
        ·skip
         try simp only [hasB, isSizeB, Bool.not_eq_true', Bool.not_eq_false', bne_iff_ne, ne_eq, bne_eq_false_iff_eq, beq_iff_eq, beq_eq_false_iff_ne, decide_eq_true_eq, decide_eq_false_iff_not, gt_iff_lt, ge_iff_le] at h9
         refine At.skipC ?_
         refine At.blkN ?_
         refine At.thenN ?_
         refine At.seq ?_
         refine At.openS 1 rfl ?_
         simp only [bookL, List.cons_append, List.nil_append, ec0, ecS]
         refine At.region ?_
         refine tA rfl rfl ?_
         refine tE ?_
         refine At.retC ?_
         refine At.ret1 (.inl rfl) rfl rfl rfl (fun w hw => ?_)
         exact ⟨B, rfl, toBook (bok_more hok (Nat.le_add_right _ _)) hw⟩


theorem At.moreB {Γ : Ctx} {E : Env} {H : List Res} {φ : Act → World → Prop} {b m : Nat} {B : List Pr} (k : At Γ E (BookR b B (m + 65537) :: H) φ) : At Γ E (BookR b B m :: H) φ := fun a w ha hw => by
  have hok : BOk m B := BookR.ok (hw.all _ (List.mem_cons_self ..))
  have h1 : Rep Γ.w0 Γ.S (blk b tBo (bC B) :: fam (bI B) :: factR (BOk m B) :: H) w := hw.openS
  have h2 : Rep Γ.w0 Γ.S (factR (BOk (m + 65537) B) :: blk b tBo (bC B) :: fam (bI B) :: H) w := Rep.fact (bok_more hok (Nat.le_add_right _ _)) (h1.drop (((List.Sublist.refl H).cons _).cons_cons _ |>.cons_cons _))
  have h3 : Rep Γ.w0 Γ.S (bookL b B (m + 65537) ++ H) w := h2.perm (List.perm_middle (l₁ := [_, _]) (a := factR (BOk (m + 65537) B)) (l₂ := H)).symm
  exact k a w ha h3.shutS


theorem rd_one1 {w : World} {v : Value} {sz n : Nat} {xs : List Value} (h : Rd w v sz n xs) : v.oneCell' = true := by obtain ⟨A, c, rfl, _⟩ := h; cases A <;> rfl


theorem RdO.mod {w w' : World} {v : Value} {L : List Op7} (h : RdO w v L) (hm : Mod (fun _ => False) w w') : RdO w' v L := ⟨h.1.mod hm, fun o ho => by obtain ⟨a, b, c, d, e⟩ := h.2 o ho; exact ⟨a.mod hm, b.mod hm, c, d, e⟩⟩

theorem upTo_p (v : Value) (L : List Op7) (lo hi : Int) (w : World) (hv : RdO w v L) (hl : L.length ≤ 140737488355328) :
    PureC Try.prog 53 [v, .int .i64 lo, .int .i64 hi] (.bool true) w := by
 refine enter0 Try.func53 rfl Try.ntmps53 rfl ?_
 simp only [envOf]
 refine tR ?_
 refine tA rfl rfl ?_
 refine tE ?_
 refine tR ?_
 refine At.callNBk (fun w hw => begin_n w) Try.call71 rfl (fun b1 B2 => ?_)
 refine tM rfl rfl ?_
 refine At.val (Val.extract rfl rfl) rfl rfl rfl ?_
 refine At.val (Val.extract rfl rfl) rfl rfl rfl ?_
 refine tA rfl rfl ?_
 refine tA rfl rfl ?_
 refine tE ?_
 refine At.seq ?_
 refine tR ?_
 refine tM rfl rfl ?_
 refine At.val (Val.not rfl) rfl rfl rfl ?_
 refine tE ?_
 refine At.condF rfl ?_
 refine At.skipC ?_
 refine At.thenN ?_
 refine At.seq ?_
 refine tR ?_
 refine tA rfl rfl ?_
 refine tE ?_
 refine At.block ?_
 skip
 refine At.loop (σ := Nat × List Pr) (fun s => s.1 ≤ L.length ∧ s.1 ≤ 400) (fun s => [(0, v), (1, .int .i64 lo), (2, .int .i64 hi), (7, .pointer (some ⟨b1, 0, none⟩)), (9, .int .i64 (s.1 : Int))]) (fun s => [BookR b1 s.2 (s.1 * 65537)]) (fun s => L.length - s.1) (0, B2) ⟨Nat.zero_le _, Nat.zero_le _⟩ (Sub.cons rfl (Sub.cons rfl (Sub.cons rfl (Sub.cons rfl (Sub.cons rfl Sub.nil))))) (by dsimp only; rw [Nat.zero_mul]) ?_
 intro s hs
 obtain ⟨k, B⟩ := s
 dsimp only at hs ⊢
 refine At.seq ?_
 refine tR ?_
 refine tM rfl rfl ?_
 refine tM rfl rfl ?_
 refine At.val (Val.lenRd hv.1 Try.underlying89 rfl) rfl rfl rfl ?_
 refine At.val (Val.bin rfl rfl rfl) rfl rfl rfl ?_
 refine At.weaken [(0, _), (1, _), (2, _), (7, _), (9, _), (22, _)] (Sub.cons rfl (Sub.cons rfl (Sub.cons rfl (Sub.cons rfl (Sub.cons rfl (Sub.cons rfl Sub.nil)))))) ?_
 refine At.boolMeet 4 26 (decide (k < L.length ∧ k < 400)) ?_ ?_
 ·skip
  simp only [List.take_succ_cons, List.take_zero]
  refine tM rfl rfl ?_
  refine At.split (t := 23) rfl (fun h3 => ?_) (fun h3 => ?_)
  ·skip
   try simp only [hasB, isSizeB, Bool.not_eq_true', Bool.not_eq_false', bne_iff_ne, ne_eq, bne_eq_false_iff_eq, beq_iff_eq, beq_eq_false_iff_ne, decide_eq_true_eq, decide_eq_false_iff_not, gt_iff_lt, ge_iff_le] at h3
   refine At.yes rfl rfl ?_
   refine tM rfl rfl ?_
   refine At.yes rfl rfl ?_
   refine At.val (Val.bin rfl rfl rfl) rfl rfl rfl ?_
   refine At.val (Val.pickT rfl rfl) rfl rfl rfl ?_
   refine At.nil ?_
   exact At.boolEnd rfl (by apply Bool.eq_iff_iff.2; (simp only [decide_eq_true_eq, Bool.false_eq_true, false_iff, true_iff, gt_iff_lt, ge_iff_le]) <;> omega) (by repeat (first | exact Sub.nil | refine Sub.cons rfl ?_))
  ·skip
   try simp only [hasB, isSizeB, Bool.not_eq_true', Bool.not_eq_false', bne_iff_ne, ne_eq, bne_eq_false_iff_eq, beq_iff_eq, beq_eq_false_iff_ne, decide_eq_true_eq, decide_eq_false_iff_not, gt_iff_lt, ge_iff_le] at h3
   refine At.no rfl rfl rfl rfl ?_
   refine At.no rfl rfl rfl rfl ?_
   refine At.val (Val.pickF rfl rfl) rfl rfl rfl ?_
   refine At.nil ?_
   exact At.boolEnd rfl (by apply Bool.eq_iff_iff.2; (simp only [decide_eq_true_eq, Bool.false_eq_true, false_iff, true_iff, gt_iff_lt, ge_iff_le]) <;> omega) (by repeat (first | exact Sub.nil | refine Sub.cons rfl ?_))
 ·skip
  simp only [List.drop_succ_cons, List.drop_zero]
  refine tE ?_
  refine At.cond rfl (fun h4 => ?_) (fun h4 => ?_)
  ·skip
   try simp only [hasB, isSizeB, Bool.not_eq_true', Bool.not_eq_false', bne_iff_ne, ne_eq, bne_eq_false_iff_eq, beq_iff_eq, beq_eq_false_iff_ne, decide_eq_true_eq, decide_eq_false_iff_not, gt_iff_lt, ge_iff_le] at h4
   obtain ⟨o, ho⟩ : ∃ o, L[k]? = some o := ⟨_, List.getElem?_eq_getElem (by omega)⟩
   have hop := hv.2 o (List.mem_of_getElem? ho)
   refine At.skipC ?_
   refine At.thenN ?_
   refine At.seq ?_
   refine At.block ?_
   refine tR ?_
   refine tM rfl rfl ?_
   refine tM rfl rfl ?_
   refine At.idxRd hv.1 Try.underlying89 Try.sizeOf118 rfl rfl (by omega) (by omega) rfl rfl (fun bo oo hoc => ?_)
   rw [Int.toNat_natCast] at hoc
   refine At.val (Val.loadOldPart (vs := [.int .i64 o.kd, .int .i64 o.dd, .int .i64 o.a, .int .i64 o.n, b64 o.x, o.vB, o.vL]) Try.isAgg118 Try.sizeOf118 rfl rfl (fun j u hj => hoc j u (oC_at ho hj)) (fun h => h)) rfl rfl rfl ?_
   refine At.alloc Try.zeroValue118 rfl rfl (fun b5 => ?_)
   refine At.storeAll (i := 0) (vs := [.int .i64 o.kd, .int .i64 o.dd, .int .i64 o.a, .int .i64 o.n, b64 o.x, o.vB, o.vL]) Try.sizeOf118 rfl rfl rfl (by intro u hu; simp only [List.mem_cons, List.not_mem_nil, or_false] at hu; rcases hu with rfl | rfl | rfl | rfl | rfl | rfl | rfl <;> first | rfl | exact rd_one1 hop.b | exact rd_one1 hop.l) rfl rfl ?_
   simp only [sc0, scS]
   refine tE ?_
   refine tR ?_
   refine At.val (Val.field 0 rfl fo_118_0 rfl) rfl rfl rfl ?_
   refine At.val (Val.load (i := 0) Try.isAgg3 rfl rfl rfl) rfl rfl rfl ?_
   refine tM rfl rfl ?_
   refine At.val (Val.bin rfl rfl rfl) rfl rfl rfl ?_
   refine At.weaken [(0, _), (1, _), (2, _), (7, _), (9, _), (22, _), (26, _), (29, _), (30, _), (31, _), (32, _), (10, _), (36, _)] (Sub.cons rfl (Sub.cons rfl (Sub.cons rfl (Sub.cons rfl (Sub.cons rfl (Sub.cons rfl (Sub.cons rfl (Sub.cons rfl (Sub.cons rfl (Sub.cons rfl (Sub.cons rfl (Sub.cons rfl (Sub.cons rfl Sub.nil))))))))))))) ?_
   refine At.boolMeet 6 42 (decide (lo ≤ o.kd ∧ o.kd ≤ hi)) ?_ ?_
   ·skip
    simp only [List.take_succ_cons, List.take_zero]
    refine tM rfl rfl ?_
    refine At.split (t := 37) rfl (fun h6 => ?_) (fun h6 => ?_)
    ·skip
     try simp only [hasB, isSizeB, Bool.not_eq_true', Bool.not_eq_false', bne_iff_ne, ne_eq, bne_eq_false_iff_eq, beq_iff_eq, beq_eq_false_iff_ne, decide_eq_true_eq, decide_eq_false_iff_not, gt_iff_lt, ge_iff_le] at h6
     refine At.yes rfl rfl ?_
     refine At.val (Val.field 0 rfl fo_118_0 rfl) rfl rfl rfl ?_
     refine At.yes rfl rfl ?_
     refine At.val (Val.load (i := 0) Try.isAgg3 rfl rfl rfl) rfl rfl rfl ?_
     refine At.yes rfl rfl ?_
     refine tM rfl rfl ?_
     refine At.yes rfl rfl ?_
     refine At.val (Val.bin rfl rfl rfl) rfl rfl rfl ?_
     refine At.val (Val.pickT rfl rfl) rfl rfl rfl ?_
     refine At.nil ?_
     exact At.boolEnd rfl (by apply Bool.eq_iff_iff.2; (simp only [decide_eq_true_eq, Bool.false_eq_true, false_iff, true_iff, gt_iff_lt, ge_iff_le]) <;> omega) (by repeat (first | exact Sub.nil | refine Sub.cons rfl ?_))
    ·skip
     try simp only [hasB, isSizeB, Bool.not_eq_true', Bool.not_eq_false', bne_iff_ne, ne_eq, bne_eq_false_iff_eq, beq_iff_eq, beq_eq_false_iff_ne, decide_eq_true_eq, decide_eq_false_iff_not, gt_iff_lt, ge_iff_le] at h6
     refine At.no rfl rfl rfl rfl ?_
     refine At.no rfl rfl rfl rfl ?_
     refine At.no rfl rfl rfl rfl ?_
     refine At.no rfl rfl rfl rfl ?_
     refine At.val (Val.pickF rfl rfl) rfl rfl rfl ?_
     refine At.nil ?_
     exact At.boolEnd rfl (by apply Bool.eq_iff_iff.2; (simp only [decide_eq_true_eq, Bool.false_eq_true, false_iff, true_iff, gt_iff_lt, ge_iff_le]) <;> omega) (by repeat (first | exact Sub.nil | refine Sub.cons rfl ?_))
   ·skip
    simp only [List.drop_succ_cons, List.drop_zero]
    refine tA rfl rfl ?_
    refine tE ?_
    refine tR ?_
    refine tM rfl rfl ?_
    refine At.weaken [(0, _), (1, _), (2, _), (7, _), (9, _), (22, _), (26, _), (29, _), (30, _), (31, _), (32, _), (10, _), (36, _), (42, _), (11, _), (43, _)] (Sub.cons rfl (Sub.cons rfl (Sub.cons rfl (Sub.cons rfl (Sub.cons rfl (Sub.cons rfl (Sub.cons rfl (Sub.cons rfl (Sub.cons rfl (Sub.cons rfl (Sub.cons rfl (Sub.cons rfl (Sub.cons rfl (Sub.cons rfl (Sub.cons rfl (Sub.cons rfl Sub.nil)))))))))))))))) ?_
    refine At.boolMeet 15 58 (decide ((lo ≤ o.kd ∧ o.kd ≤ hi) ∨ o.kd ≤ 3 ∨ (7 ≤ o.kd ∧ o.kd ≤ 12))) ?_ ?_
    ·skip
     simp only [List.take_succ_cons, List.take_zero]
     refine tM rfl rfl ?_
     refine At.split (t := 44) rfl (fun h7 => ?_) (fun h7 => ?_)
     ·skip
      try simp only [hasB, isSizeB, Bool.not_eq_true', Bool.not_eq_false', bne_iff_ne, ne_eq, bne_eq_false_iff_eq, beq_iff_eq, beq_eq_false_iff_ne, decide_eq_true_eq, decide_eq_false_iff_not, gt_iff_lt, ge_iff_le] at h7
      refine At.no rfl rfl rfl rfl ?_
      refine At.no rfl rfl rfl rfl ?_
      refine At.no rfl rfl rfl rfl ?_
      refine At.val (Val.pickT rfl rfl) rfl rfl rfl ?_
      refine tM rfl rfl ?_
      refine At.no rfl rfl rfl rfl ?_
      refine At.no rfl rfl rfl rfl ?_
      refine At.no rfl rfl rfl rfl ?_
      refine At.no rfl rfl rfl rfl ?_
      refine At.noU rfl rfl rfl ?_
      refine At.noU rfl rfl rfl ?_
      refine At.noU rfl rfl rfl ?_
      refine At.no rfl rfl rfl rfl ?_
      refine At.val (Val.pickT rfl rfl) rfl rfl rfl ?_
      refine At.nil ?_
      exact At.boolEnd rfl (by apply Bool.eq_iff_iff.2; (simp only [decide_eq_true_eq, Bool.false_eq_true, false_iff, true_iff, iff_true, iff_false, gt_iff_lt, ge_iff_le]) <;> omega) (by repeat (first | exact Sub.nil | refine Sub.cons rfl ?_))
     ·skip
      try simp only [hasB, isSizeB, Bool.not_eq_true', Bool.not_eq_false', bne_iff_ne, ne_eq, bne_eq_false_iff_eq, beq_iff_eq, beq_eq_false_iff_ne, decide_eq_true_eq, decide_eq_false_iff_not, gt_iff_lt, ge_iff_le] at h7
      refine At.yes rfl rfl ?_
      refine At.val (Val.field 0 rfl fo_118_0 rfl) rfl rfl rfl ?_
      refine At.yes rfl rfl ?_
      refine At.val (Val.load (i := 0) Try.isAgg3 rfl rfl rfl) rfl rfl rfl ?_
      refine At.yes rfl rfl ?_
      refine At.val (Val.bin rfl rfl rfl) rfl rfl rfl ?_
      refine At.val (Val.pickF rfl rfl) rfl rfl rfl ?_
      refine tM rfl rfl ?_
      refine At.split (t := 49) rfl (fun h8 => ?_) (fun h8 => ?_)
      ·skip
       try simp only [hasB, isSizeB, Bool.not_eq_true', Bool.not_eq_false', bne_iff_ne, ne_eq, bne_eq_false_iff_eq, beq_iff_eq, beq_eq_false_iff_ne, decide_eq_true_eq, decide_eq_false_iff_not, gt_iff_lt, ge_iff_le] at h8
       refine At.no rfl rfl rfl rfl ?_
       refine At.no rfl rfl rfl rfl ?_
       refine At.no rfl rfl rfl rfl ?_
       refine At.no rfl rfl rfl rfl ?_
       refine At.noU rfl rfl rfl ?_
       refine At.noU rfl rfl rfl ?_
       refine At.noU rfl rfl rfl ?_
       refine At.no rfl rfl rfl rfl ?_
       refine At.val (Val.pickT rfl rfl) rfl rfl rfl ?_
       refine At.nil ?_
       exact At.boolEnd rfl (by apply Bool.eq_iff_iff.2; (simp only [decide_eq_true_eq, Bool.false_eq_true, false_iff, true_iff, iff_true, iff_false, gt_iff_lt, ge_iff_le]) <;> omega) (by repeat (first | exact Sub.nil | refine Sub.cons rfl ?_))
      ·skip
       try simp only [hasB, isSizeB, Bool.not_eq_true', Bool.not_eq_false', bne_iff_ne, ne_eq, bne_eq_false_iff_eq, beq_iff_eq, beq_eq_false_iff_ne, decide_eq_true_eq, decide_eq_false_iff_not, gt_iff_lt, ge_iff_le] at h8
       refine At.yes rfl rfl ?_
       refine At.val (Val.field 0 rfl fo_118_0 rfl) rfl rfl rfl ?_
       refine At.yes rfl rfl ?_
       refine At.val (Val.load (i := 0) Try.isAgg3 rfl rfl rfl) rfl rfl rfl ?_
       refine At.yes rfl rfl ?_
       refine At.val (Val.bin rfl rfl rfl) rfl rfl rfl ?_
       refine At.yes rfl rfl ?_
       refine tM rfl rfl ?_
       refine At.split (t := 53) rfl (fun h9 => ?_) (fun h9 => ?_)
       ·skip
        try simp only [hasB, isSizeB, Bool.not_eq_true', Bool.not_eq_false', bne_iff_ne, ne_eq, bne_eq_false_iff_eq, beq_iff_eq, beq_eq_false_iff_ne, decide_eq_true_eq, decide_eq_false_iff_not, gt_iff_lt, ge_iff_le] at h9
        refine At.yes rfl rfl ?_
        refine At.val (Val.field 0 rfl fo_118_0 rfl) rfl rfl rfl ?_
        refine At.yes rfl rfl ?_
        refine At.val (Val.load (i := 0) Try.isAgg3 rfl rfl rfl) rfl rfl rfl ?_
        refine At.yes rfl rfl ?_
        refine At.val (Val.bin rfl rfl rfl) rfl rfl rfl ?_
        refine At.yes rfl rfl ?_
        refine At.val (Val.pickT rfl rfl) rfl rfl rfl ?_
        refine At.val (Val.pickF rfl rfl) rfl rfl rfl ?_
        refine At.nil ?_
        exact At.boolEnd rfl (by apply Bool.eq_iff_iff.2; (simp only [decide_eq_true_eq, Bool.false_eq_true, false_iff, true_iff, iff_true, iff_false, gt_iff_lt, ge_iff_le]) <;> omega) (by repeat (first | exact Sub.nil | refine Sub.cons rfl ?_))
       ·skip
        try simp only [hasB, isSizeB, Bool.not_eq_true', Bool.not_eq_false', bne_iff_ne, ne_eq, bne_eq_false_iff_eq, beq_iff_eq, beq_eq_false_iff_ne, decide_eq_true_eq, decide_eq_false_iff_not, gt_iff_lt, ge_iff_le] at h9
        refine At.no rfl rfl rfl rfl ?_
        refine At.no rfl rfl rfl rfl ?_
        refine At.no rfl rfl rfl rfl ?_
        refine At.yes rfl rfl ?_
        refine At.val (Val.pickF rfl rfl) rfl rfl rfl ?_
        refine At.val (Val.pickF rfl rfl) rfl rfl rfl ?_
        refine At.nil ?_
        exact At.boolEnd rfl (by apply Bool.eq_iff_iff.2; (simp only [decide_eq_true_eq, Bool.false_eq_true, false_iff, true_iff, iff_true, iff_false, gt_iff_lt, ge_iff_le]) <;> omega) (by repeat (first | exact Sub.nil | refine Sub.cons rfl ?_))
    ·skip
     simp only [List.drop_succ_cons, List.drop_zero]
     refine tE ?_
     refine At.cond rfl (fun h10 => ?_) (fun h10 => ?_)
     ·skip
      try simp only [hasB, isSizeB, Bool.not_eq_true', Bool.not_eq_false', bne_iff_ne, ne_eq, bne_eq_false_iff_eq, beq_iff_eq, beq_eq_false_iff_ne, decide_eq_true_eq, decide_eq_false_iff_not, gt_iff_lt, ge_iff_le] at h10
      refine tR ?_
      refine tM rfl rfl ?_
      refine At.val (Val.loadAll (i := 0) Try.isAgg118 Try.sizeOf118 rfl rfl rfl) rfl rfl rfl ?_
      refine At.callBP 1 rfl (fun w hw hr => plays_k b1 (k * 65537) B o.kd o.dd o.a o.n o.x o.vB o.vL o.lB o.cs w (hop.b.mod hw.mod) (hop.l.mod hw.mod) (hop.b.off (hw.newFoot (List.mem_of_getElem? (i := 1) rfl))) (hop.l.off (hw.newFoot (List.mem_of_getElem? (i := 1) rfl))) hop.bl hop.cl hop.n (by omega) hr) Try.call72 rfl rfl (fun B2 => ?_)
      simp only [sc0, scS]
      refine tA rfl rfl ?_
      refine tE ?_
      refine tR ?_
      refine tM rfl rfl ?_
      refine At.val (Val.not rfl) rfl rfl rfl ?_
      refine tM rfl rfl ?_
      refine At.no rfl rfl rfl rfl ?_
      refine At.no rfl rfl rfl rfl ?_
      refine At.noU rfl rfl rfl ?_
      refine At.noU rfl rfl rfl ?_
      refine At.noU rfl rfl rfl ?_
      refine At.no rfl rfl rfl rfl ?_
      refine At.val (Val.pickF rfl rfl) rfl rfl rfl ?_
      refine tE ?_
      refine At.condF rfl ?_
      refine At.skipC ?_
      refine At.blkN ?_
      refine At.thenN ?_
      refine At.region ?_
      refine tM rfl rfl ?_
      first | refine At.val (Val.addI rfl rfl (by omega) (by omega)) rfl rfl rfl ?_ | refine At.val (Val.bin rfl rfl rfl) rfl rfl rfl ?_
      refine tA rfl rfl ?_
      refine tE ?_
      refine At.drop 0 ?_
      simp only [ec0, ecS]
      exact At.again (k + 1, B2) ⟨(show k + 1 ≤ _ by omega), (show k + 1 ≤ 400 by omega)⟩ (by dsimp only; omega) (Sub.cons rfl (Sub.cons rfl (Sub.cons rfl (Sub.cons rfl (Sub.cons (congrArg (fun z => some (Value.int IntKind.i64 z)) (by omega)) Sub.nil))))) (by dsimp only; rw [show (k + 1) * 65537 = k * 65537 + 65537 by omega])
     ·skip
      try simp only [hasB, isSizeB, Bool.not_eq_true', Bool.not_eq_false', bne_iff_ne, ne_eq, bne_eq_false_iff_eq, beq_iff_eq, beq_eq_false_iff_ne, decide_eq_true_eq, decide_eq_false_iff_not, gt_iff_lt, ge_iff_le] at h10
      refine At.bring 1 rfl ?_
      simp only [ec0, ecS]
      refine At.moreB ?_
      obtain ⟨B2, hB2⟩ : ∃ B2, B2 = B := ⟨_, rfl⟩
      rw [← hB2]
      refine At.skipC ?_
      refine At.blkN ?_
      refine At.thenN ?_
      refine At.region ?_
      refine tM rfl rfl ?_
      first | refine At.val (Val.addI rfl rfl (by omega) (by omega)) rfl rfl rfl ?_ | refine At.val (Val.bin rfl rfl rfl) rfl rfl rfl ?_
      refine tA rfl rfl ?_
      refine tE ?_
      refine At.drop 1 ?_
      simp only [ec0, ecS]
      exact At.again (k + 1, B2) ⟨(show k + 1 ≤ _ by omega), (show k + 1 ≤ 400 by omega)⟩ (by dsimp only; omega) (Sub.cons rfl (Sub.cons rfl (Sub.cons rfl (Sub.cons rfl (Sub.cons (congrArg (fun z => some (Value.int IntKind.i64 z)) (by omega)) Sub.nil))))) (by dsimp only; rw [show (k + 1) * 65537 = k * 65537 + 65537 by omega])
  ·skip
   try simp only [hasB, isSizeB, Bool.not_eq_true', Bool.not_eq_false', bne_iff_ne, ne_eq, bne_eq_false_iff_eq, beq_iff_eq, beq_eq_false_iff_ne, decide_eq_true_eq, decide_eq_false_iff_not, gt_iff_lt, ge_iff_le] at h4
   refine At.exitC ?_
   refine At.thenX ?_
   refine At.thenX ?_
   refine At.blkX ?_
   refine At.thenN ?_
   refine tR ?_
   refine tA rfl rfl ?_
   refine tE ?_
   refine At.retC ?_
   refine At.ret1 (.inl rfl) rfl rfl rfl (fun w hw => ?_)
   exact ⟨rfl, hw.mod⟩

theorem lawPmemMakes_p (v : Value) (L : List Op7) (w : World) (hv : RdO w v L) (hl : L.length ≤ 140737488355328) :
    PureC Try.prog 11 [v] (.bool true) w := by
 refine enter0 Try.func11 rfl Try.ntmps11 rfl ?_
 simp only [envOf]
 refine tR ?_
 refine tA rfl rfl ?_
 refine tE ?_
 refine tR ?_
 refine tM rfl rfl ?_
 refine At.callP (fun w hw => upTo_p v L 1 4 w (hv.mod hw.mod) hl) Try.call53 rfl rfl ?_
 refine tA rfl rfl ?_
 refine tE ?_
 refine At.retC ?_
 refine At.ret1 (.inl rfl) rfl rfl rfl (fun w hw => ?_)
 exact ⟨rfl, hw.mod⟩

theorem lawPmemLooks_p (v : Value) (L : List Op7) (w : World) (hv : RdO w v L) (hl : L.length ≤ 140737488355328) :
    PureC Try.prog 12 [v] (.bool true) w := by
 refine enter0 Try.func12 rfl Try.ntmps12 rfl ?_
 simp only [envOf]
 refine tR ?_
 refine tA rfl rfl ?_
 refine tE ?_
 refine tR ?_
 refine tM rfl rfl ?_
 refine At.callP (fun w hw => upTo_p v L 5 6 w (hv.mod hw.mod) hl) Try.call53 rfl rfl ?_
 refine tA rfl rfl ?_
 refine tE ?_
 refine At.retC ?_
 refine At.ret1 (.inl rfl) rfl rfl rfl (fun w hw => ?_)
 exact ⟨rfl, hw.mod⟩

theorem lawPmemSteps_p (v : Value) (L : List Op7) (w : World) (hv : RdO w v L) (hl : L.length ≤ 140737488355328) :
    PureC Try.prog 13 [v] (.bool true) w := by
 refine enter0 Try.func13 rfl Try.ntmps13 rfl ?_
 simp only [envOf]
 refine tR ?_
 refine tA rfl rfl ?_
 refine tE ?_
 refine tR ?_
 refine tM rfl rfl ?_
 refine At.callP (fun w hw => upTo_p v L 7 14 w (hv.mod hw.mod) hl) Try.call53 rfl rfl ?_
 refine tA rfl rfl ?_
 refine tE ?_
 refine At.retC ?_
 refine At.ret1 (.inl rfl) rfl rfl rfl (fun w hw => ?_)
 exact ⟨rfl, hw.mod⟩

theorem lawPmemDoubts_p (v : Value) (L : List Op7) (w : World) (hv : RdO w v L) (hl : L.length ≤ 140737488355328) :
    PureC Try.prog 14 [v] (.bool true) w := by
 refine enter0 Try.func14 rfl Try.ntmps14 rfl ?_
 simp only [envOf]
 refine tR ?_
 refine tA rfl rfl ?_
 refine tE ?_
 refine tR ?_
 refine tM rfl rfl ?_
 refine At.callP (fun w hw => upTo_p v L 15 15 w (hv.mod hw.mod) hl) Try.call53 rfl rfl ?_
 refine tA rfl rfl ?_
 refine tE ?_
 refine At.retC ?_
 refine At.ret1 (.inl rfl) rfl rfl rfl (fun w hw => ?_)
 exact ⟨rfl, hw.mod⟩

theorem lawPmemCrashes_p (v : Value) (L : List Op7) (w : World) (hv : RdO w v L) (hl : L.length ≤ 140737488355328) :
    PureC Try.prog 15 [v] (.bool true) w := by
 refine enter0 Try.func15 rfl Try.ntmps15 rfl ?_
 simp only [envOf]
 refine tR ?_
 refine tA rfl rfl ?_
 refine tE ?_
 refine tR ?_
 refine tM rfl rfl ?_
 refine At.callP (fun w hw => upTo_p v L 16 16 w (hv.mod hw.mod) hl) Try.call53 rfl rfl ?_
 refine tA rfl rfl ?_
 refine tE ?_
 refine At.retC ?_
 refine At.ret1 (.inl rfl) rfl rfl rfl (fun w hw => ?_)
 exact ⟨rfl, hw.mod⟩

theorem lawPmemViews_p (v : Value) (L : List Op7) (w : World) (hv : RdO w v L) (hl : L.length ≤ 140737488355328) :
    PureC Try.prog 16 [v] (.bool true) w := by
 refine enter0 Try.func16 rfl Try.ntmps16 rfl ?_
 simp only [envOf]
 refine tR ?_
 refine tA rfl rfl ?_
 refine tE ?_
 refine tR ?_
 refine tM rfl rfl ?_
 refine At.callP (fun w hw => upTo_p v L 17 17 w (hv.mod hw.mod) hl) Try.call53 rfl rfl ?_
 refine tA rfl rfl ?_
 refine tE ?_
 refine At.retC ?_
 refine At.ret1 (.inl rfl) rfl rfl rfl (fun w hw => ?_)
 exact ⟨rfl, hw.mod⟩

theorem lawPmemAll_p (v : Value) (L : List Op7) (w : World) (hv : RdO w v L) (hl : L.length ≤ 140737488355328) :
    PureC Try.prog 17 [v] (.bool true) w := by
 refine enter0 Try.func17 rfl Try.ntmps17 rfl ?_
 simp only [envOf]
 refine tR ?_
 refine tA rfl rfl ?_
 refine tE ?_
 refine tR ?_
 refine tM rfl rfl ?_
 refine At.callP (fun w hw => upTo_p v L 1 17 w (hv.mod hw.mod) hl) Try.call53 rfl rfl ?_
 refine tA rfl rfl ?_
 refine tE ?_
 refine At.retC ?_
 refine At.ret1 (.inl rfl) rfl rfl rfl (fun w hw => ?_)
 exact ⟨rfl, hw.mod⟩

end Go.Proofs.Ytkpbpeajkfgfiaa
