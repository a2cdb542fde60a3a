/- The device: sizes, bounds, steps. -/
import Derived.Test.YtgighokkflchmaaFa
import Derived.Test.YtgighokkflchmaaDd
set_option linter.unusedVariables false
set_option linter.unusedSimpArgs false
namespace Go.Proofs.Ytgighokkflchmaa
open Go Go.Wk

def isSizeB (n : Int) : Bool := decide (512 ≤ n ∧ n ≤ 524288 ∧ n % 512 = 0)
def hasB (σ : Ds) (a n : Int) : Bool := decide (0 ≤ a ∧ 0 ≤ n ∧ a ≤ 8 * (σ.ws.length : Int) ∧ n ≤ 8 * (σ.ws.length : Int) - a)
def placeE (σ : Ds) (a : Int) : Int := if 0 ≤ a ∧ a < 8 * (σ.ws.length : Int) then (if a % 8 = 0 then 0 else 12) else 11
def deadB (σ : Ds) : Bool := σ.armed && decide (σ.left = 0)
def stepD (σ : Ds) : Ds := { σ with steps := σ.steps + 1, left := if σ.armed then σ.left - 1 else σ.left }
def nowW (w : Wd) : BitVec 64 := w.news.getLast?.getD w.old
def zWd : Wd := ⟨0, [], 0⟩
def wz (n : Nat) : List Wd := List.replicate n zWd
def zeroD (n : Nat) : Ds := ⟨wz n, 0, false, 0⟩
theorem dgood_step {σ : Ds} (h : Dgood σ) (hs : σ.steps + 1 ≤ 1099511627776) : Dgood (stepD σ) :=
  ⟨h.pos, h.len, h.lines, hs, by have := h.left; unfold stepD; simp only; split <;> omega, fun w hw => ⟨(h.word w hw).1, by have := (h.word w hw).2; show _ ≤ σ.steps + 1; omega⟩⟩

theorem isSize_p (n : Int) (w : World) :
    PureC Try.prog 37 [.int .i64 n] (.bool (isSizeB n)) w := by
 refine enter0 Try.func37 rfl Try.ntmps37 rfl ?_
 simp only [envOf]
 refine tR ?_
 refine tA rfl rfl ?_
 refine tE ?_
 refine tR ?_
 refine tM rfl rfl ?_
 refine At.weaken [(0, _), (2, _), (3, _)] (Sub.cons rfl (Sub.cons rfl (Sub.cons rfl Sub.nil))) ?_
 refine At.boolMeet 10 13 (isSizeB n) ?_ ?_
 ·skip
  simp only [List.take_succ_cons, List.take_zero]
  refine At.val (Val.bin rfl rfl rfl) rfl rfl rfl ?_
  refine tM rfl rfl ?_
  refine At.split (t := 5) rfl (fun h1 => ?_) (fun h1 => ?_)
  ·skip
   try simp only [hasB, isSizeB, Bool.not_eq_true', Bool.not_eq_false', bne_iff_ne, ne_eq, bne_eq_false_iff_eq, beq_iff_eq, beq_eq_false_iff_ne, decide_eq_true_eq, decide_eq_false_iff_not, gt_iff_lt, ge_iff_le] at h1
   refine At.yes rfl rfl ?_
   refine tM rfl rfl ?_
   refine At.yes rfl rfl ?_
   refine At.val (Val.bin rfl rfl rfl) rfl rfl rfl ?_
   refine At.val (Val.pickT rfl rfl) rfl rfl rfl ?_
   refine tM rfl rfl ?_
   refine At.split (t := 9) rfl (fun h2 => ?_) (fun h2 => ?_)
   ·skip
    try simp only [hasB, isSizeB, Bool.not_eq_true', Bool.not_eq_false', bne_iff_ne, ne_eq, bne_eq_false_iff_eq, beq_iff_eq, beq_eq_false_iff_ne, decide_eq_true_eq, decide_eq_false_iff_not, gt_iff_lt, ge_iff_le] at h2
    refine At.yes rfl rfl ?_
    refine tM rfl rfl ?_
    refine At.yes rfl rfl ?_
    first | refine At.val (Val.remI rfl rfl (by omega) (by decide)) rfl rfl rfl ?_ | refine At.val (Val.rem rfl rfl (by decide)) rfl rfl rfl ?_
    refine At.yes rfl rfl ?_
    refine At.val (Val.bin rfl rfl rfl) rfl rfl rfl ?_
    refine At.val (Val.pickT rfl rfl) rfl rfl rfl ?_
    refine At.nil ?_
    exact At.boolEnd rfl (by unfold isSizeB; exact (by first | exact (decide_eq_true (by omega)).symm | exact (decide_eq_false (by omega)).symm | (apply Bool.eq_iff_iff.2; simp only [decide_eq_true_eq, beq_iff_eq, bne_iff_ne, ne_eq, Bool.not_eq_true', decide_eq_false_iff_not]; omega) | rfl | (simp_all; done) | (simp_all; omega))) (by repeat (first | exact Sub.nil | refine Sub.cons rfl ?_))
   ·skip
    try simp only [hasB, isSizeB, Bool.not_eq_true', Bool.not_eq_false', bne_iff_ne, ne_eq, bne_eq_false_iff_eq, beq_iff_eq, beq_eq_false_iff_ne, decide_eq_true_eq, decide_eq_false_iff_not, gt_iff_lt, ge_iff_le] at h2
    refine At.no rfl rfl rfl rfl ?_
    refine At.no rfl rfl rfl rfl ?_
    refine At.no rfl rfl rfl rfl ?_
    refine At.val (Val.pickF rfl rfl) rfl rfl rfl ?_
    refine At.nil ?_
    exact At.boolEnd rfl (by unfold isSizeB; exact (by first | exact (decide_eq_true (by omega)).symm | exact (decide_eq_false (by omega)).symm | (apply Bool.eq_iff_iff.2; simp only [decide_eq_true_eq, beq_iff_eq, bne_iff_ne, ne_eq, Bool.not_eq_true', decide_eq_false_iff_not]; omega) | rfl | (simp_all; done) | (simp_all; omega))) (by repeat (first | exact Sub.nil | refine Sub.cons rfl ?_))
  ·skip
   try simp only [hasB, isSizeB, Bool.not_eq_true', Bool.not_eq_false', bne_iff_ne, ne_eq, bne_eq_false_iff_eq, beq_iff_eq, beq_eq_false_iff_ne, decide_eq_true_eq, decide_eq_false_iff_not, gt_iff_lt, ge_iff_le] at h1
   refine At.no rfl rfl rfl rfl ?_
   refine At.no rfl rfl rfl rfl ?_
   refine At.val (Val.pickF rfl rfl) rfl rfl rfl ?_
   refine tM rfl rfl ?_
   refine At.no rfl rfl rfl rfl ?_
   refine At.no rfl rfl rfl rfl ?_
   refine At.no rfl rfl rfl rfl ?_
   refine At.val (Val.pickF rfl rfl) rfl rfl rfl ?_
   refine At.nil ?_
   exact At.boolEnd rfl (by unfold isSizeB; exact (by first | exact (decide_eq_true (by omega)).symm | exact (decide_eq_false (by omega)).symm | (apply Bool.eq_iff_iff.2; simp only [decide_eq_true_eq, beq_iff_eq, bne_iff_ne, ne_eq, Bool.not_eq_true', decide_eq_false_iff_not]; omega) | rfl | (simp_all; done) | (simp_all; omega))) (by repeat (first | exact Sub.nil | refine Sub.cons rfl ?_))
 ·skip
  simp only [List.drop_succ_cons, List.drop_zero]
  refine tA rfl rfl ?_
  refine tE ?_
  refine At.retC ?_
  refine At.ret1 (.inl rfl) rfl rfl rfl (fun w hw => ?_)
  exact ⟨rfl, hw.mod⟩

theorem size_k (p : Nat) (γ : Gh) (σ : Ds) (w : World) (hd : (Dev p γ σ).holds w) :
    Upd Try.prog 40 [.pointer (some ⟨p, 0, none⟩)] (Dev p γ σ) (.int .i64 (8 * (σ.ws.length : Int))) (Dev p γ σ) w := by
 refine enterV hd Try.func40 rfl Try.ntmps40 rfl ?_
 unfold devL
 have hgd := Dev.good hd
 have hln := hgd.len
 have hol := olds_length σ.ws
 simp only [envOf]
 refine tR ?_
 refine tA rfl rfl ?_
 refine tE ?_
 refine tR ?_
 refine tM rfl rfl ?_
 refine At.val (Val.nilCheck rfl) rfl rfl rfl ?_
 refine At.val (Val.field 0 rfl fo_71_0 rfl) rfl rfl rfl ?_
 refine At.val (Val.load (i := 0) Try.isAgg66 rfl rfl rfl) rfl rfl rfl ?_
 refine At.val (Val.lenRow (i := 1) Try.underlying66 rfl rfl) rfl rfl rfl ?_
 first | refine At.val (Val.mulI rfl rfl (by omega) (by omega)) rfl rfl rfl ?_ | refine At.val (Val.bin rfl rfl rfl) rfl rfl rfl ?_
 refine tA rfl rfl ?_
 refine tE ?_
 refine At.retC ?_
 refine At.ret1 (.inl rfl) rfl rfl rfl (fun w hw => ?_)
 exact ⟨congrArg (fun z => Ending.returned (Value.int .i64 z)) (by omega), retK (F := []) hw⟩

theorem has_k (p : Nat) (γ : Gh) (σ : Ds) (a n : Int) (w : World) (hd : (Dev p γ σ).holds w) :
    Upd Try.prog 22 [.pointer (some ⟨p, 0, none⟩), .int .i64 a, .int .i64 n] (Dev p γ σ) (.bool (hasB σ a n)) (Dev p γ σ) w := by
 refine enterVc hd Try.func22 rfl Try.ntmps22 rfl ?_
 have hgd := Dev.good hd
 have hln := hgd.len
 simp only [envOf]
 refine tR ?_
 refine tA rfl rfl ?_
 refine tE ?_
 refine tR ?_
 refine tM rfl rfl ?_
 refine At.weaken [(0, _), (1, _), (2, _), (6, _), (7, _)] (Sub.cons rfl (Sub.cons rfl (Sub.cons rfl (Sub.cons rfl (Sub.cons rfl Sub.nil))))) ?_
 refine At.boolMeet 19 26 (hasB σ a n) ?_ ?_
 ·skip
  simp only [List.take_succ_cons, List.take_zero]
  refine At.val (Val.bin rfl rfl rfl) rfl rfl rfl ?_
  refine tM rfl rfl ?_
  refine At.split (t := 9) rfl (fun h1 => ?_) (fun h1 => ?_)
  ·skip
   try simp only [hasB, isSizeB, Bool.not_eq_true', Bool.not_eq_false', bne_iff_ne, ne_eq, bne_eq_false_iff_eq, beq_iff_eq, beq_eq_false_iff_ne, decide_eq_true_eq, decide_eq_false_iff_not, gt_iff_lt, ge_iff_le] at h1
   refine At.yes rfl rfl ?_
   refine tM rfl rfl ?_
   refine At.yes rfl rfl ?_
   refine At.val (Val.bin rfl rfl rfl) rfl rfl rfl ?_
   refine At.val (Val.pickT rfl rfl) rfl rfl rfl ?_
   refine tM rfl rfl ?_
   refine At.split (t := 13) rfl (fun h2 => ?_) (fun h2 => ?_)
   ·skip
    try simp only [hasB, isSizeB, Bool.not_eq_true', Bool.not_eq_false', bne_iff_ne, ne_eq, bne_eq_false_iff_eq, beq_iff_eq, beq_eq_false_iff_ne, decide_eq_true_eq, decide_eq_false_iff_not, gt_iff_lt, ge_iff_le] at h2
    refine At.yes rfl rfl ?_
    refine tM rfl rfl ?_
    refine At.yes rfl rfl ?_
    refine tM rfl rfl ?_
    refine At.yes rfl rfl ?_
    refine At.callK 0 rfl (fun w hw hr => size_k _ _ _ w hr) Try.call40 rfl rfl ?_
    refine At.yes rfl rfl ?_
    refine At.val (Val.bin rfl rfl rfl) rfl rfl rfl ?_
    refine At.val (Val.pickT rfl rfl) rfl rfl rfl ?_
    refine tM rfl rfl ?_
    refine At.split (t := 19) rfl (fun h3 => ?_) (fun h3 => ?_)
    ·skip
     try simp only [hasB, isSizeB, Bool.not_eq_true', Bool.not_eq_false', bne_iff_ne, ne_eq, bne_eq_false_iff_eq, beq_iff_eq, beq_eq_false_iff_ne, decide_eq_true_eq, decide_eq_false_iff_not, gt_iff_lt, ge_iff_le] at h3
     refine At.yes rfl rfl ?_
     refine tM rfl rfl ?_
     refine At.yes rfl rfl ?_
     refine tM rfl rfl ?_
     refine At.yes rfl rfl ?_
     refine At.callK 0 rfl (fun w hw hr => size_k _ _ _ w hr) Try.call40 rfl rfl ?_
     refine At.yes rfl rfl ?_
     refine tM rfl rfl ?_
     refine At.yes rfl rfl ?_
     first | refine At.val (Val.subI rfl rfl (by omega) (by omega)) rfl rfl rfl ?_ | refine At.val (Val.bin rfl rfl rfl) rfl rfl rfl ?_
     refine At.yes rfl rfl ?_
     refine At.val (Val.bin rfl rfl rfl) rfl rfl rfl ?_
     refine At.val (Val.pickT rfl rfl) rfl rfl rfl ?_
     refine At.nil ?_
     exact At.boolEnd rfl (by unfold hasB; exact (by first | exact (decide_eq_true (by omega)).symm | exact (decide_eq_false (by omega)).symm | (apply Bool.eq_iff_iff.2; simp only [decide_eq_true_eq, beq_iff_eq, bne_iff_ne, ne_eq, Bool.not_eq_true', decide_eq_false_iff_not]; omega) | rfl | (simp_all; done) | (simp_all; omega))) (by repeat (first | exact Sub.nil | refine Sub.cons rfl ?_))
    ·skip
     try simp only [hasB, isSizeB, Bool.not_eq_true', Bool.not_eq_false', bne_iff_ne, ne_eq, bne_eq_false_iff_eq, beq_iff_eq, beq_eq_false_iff_ne, decide_eq_true_eq, decide_eq_false_iff_not, gt_iff_lt, ge_iff_le] at h3
     refine At.no rfl rfl rfl rfl ?_
     refine At.no rfl rfl rfl rfl ?_
     refine At.no rfl rfl rfl rfl ?_
     refine At.no rfl rfl rfl rfl ?_
     refine At.no rfl rfl rfl rfl ?_
     refine At.no rfl rfl rfl rfl ?_
     refine At.val (Val.pickF rfl rfl) rfl rfl rfl ?_
     refine At.nil ?_
     exact At.boolEnd rfl (by unfold hasB; exact (by first | exact (decide_eq_true (by omega)).symm | exact (decide_eq_false (by omega)).symm | (apply Bool.eq_iff_iff.2; simp only [decide_eq_true_eq, beq_iff_eq, bne_iff_ne, ne_eq, Bool.not_eq_true', decide_eq_false_iff_not]; omega) | rfl | (simp_all; done) | (simp_all; omega))) (by repeat (first | exact Sub.nil | refine Sub.cons rfl ?_))
   ·skip
    try simp only [hasB, isSizeB, Bool.not_eq_true', Bool.not_eq_false', bne_iff_ne, ne_eq, bne_eq_false_iff_eq, beq_iff_eq, beq_eq_false_iff_ne, decide_eq_true_eq, decide_eq_false_iff_not, gt_iff_lt, ge_iff_le] at h2
    refine At.no rfl rfl rfl rfl ?_
    refine At.no rfl rfl rfl rfl ?_
    refine At.no rfl rfl rfl rfl ?_
    refine At.no rfl rfl rfl rfl ?_
    refine At.val (Val.pickF rfl rfl) rfl rfl rfl ?_
    refine tM rfl rfl ?_
    refine At.no rfl rfl rfl rfl ?_
    refine At.no rfl rfl rfl rfl ?_
    refine At.no rfl rfl rfl rfl ?_
    refine At.no rfl rfl rfl rfl ?_
    refine At.no rfl rfl rfl rfl ?_
    refine At.no rfl rfl rfl rfl ?_
    refine At.val (Val.pickF rfl rfl) rfl rfl rfl ?_
    refine At.nil ?_
    exact At.boolEnd rfl (by unfold hasB; exact (by first | exact (decide_eq_true (by omega)).symm | exact (decide_eq_false (by omega)).symm | (apply Bool.eq_iff_iff.2; simp only [decide_eq_true_eq, beq_iff_eq, bne_iff_ne, ne_eq, Bool.not_eq_true', decide_eq_false_iff_not]; omega) | rfl | (simp_all; done) | (simp_all; omega))) (by repeat (first | exact Sub.nil | refine Sub.cons rfl ?_))
  ·skip
   try simp only [hasB, isSizeB, Bool.not_eq_true', Bool.not_eq_false', bne_iff_ne, ne_eq, bne_eq_false_iff_eq, beq_iff_eq, beq_eq_false_iff_ne, decide_eq_true_eq, decide_eq_false_iff_not, gt_iff_lt, ge_iff_le] at h1
   refine At.no rfl rfl rfl rfl ?_
   refine At.no rfl rfl rfl rfl ?_
   refine At.val (Val.pickF rfl rfl) rfl rfl rfl ?_
   refine tM rfl rfl ?_
   refine At.no rfl rfl rfl rfl ?_
   refine At.no rfl rfl rfl rfl ?_
   refine At.no rfl rfl rfl rfl ?_
   refine At.no rfl rfl rfl rfl ?_
   refine At.val (Val.pickF rfl rfl) rfl rfl rfl ?_
   refine tM rfl rfl ?_
   refine At.no rfl rfl rfl rfl ?_
   refine At.no rfl rfl rfl rfl ?_
   refine At.no rfl rfl rfl rfl ?_
   refine At.no rfl rfl rfl rfl ?_
   refine At.no rfl rfl rfl rfl ?_
   refine At.no rfl rfl rfl rfl ?_
   refine At.val (Val.pickF rfl rfl) rfl rfl rfl ?_
   refine At.nil ?_
   exact At.boolEnd rfl (by unfold hasB; exact (by first | exact (decide_eq_true (by omega)).symm | exact (decide_eq_false (by omega)).symm | (apply Bool.eq_iff_iff.2; simp only [decide_eq_true_eq, beq_iff_eq, bne_iff_ne, ne_eq, Bool.not_eq_true', decide_eq_false_iff_not]; omega) | rfl | (simp_all; done) | (simp_all; omega))) (by repeat (first | exact Sub.nil | refine Sub.cons rfl ?_))
 ·skip
  simp only [List.drop_succ_cons, List.drop_zero]
  refine tA rfl rfl ?_
  refine tE ?_
  refine At.retC ?_
  refine At.ret1 (.inl rfl) rfl rfl rfl (fun w hw => ?_)
  exact ⟨rfl, hw⟩

theorem dead_k (p : Nat) (γ : Gh) (σ : Ds) (w : World) (hd : (Dev p γ σ).holds w) :
    Upd Try.prog 44 [.pointer (some ⟨p, 0, none⟩)] (Dev p γ σ) (.bool (deadB σ)) (Dev p γ σ) w := by
 refine enterV hd Try.func44 rfl Try.ntmps44 rfl ?_
 unfold devL
 have hgd := Dev.good hd
 simp only [envOf]
 refine tR ?_
 refine tA rfl rfl ?_
 refine tE ?_
 refine tR ?_
 refine tM rfl rfl ?_
 refine At.val (Val.nilCheck rfl) rfl rfl rfl ?_
 refine At.val (Val.field 3 rfl fo_71_3 rfl) rfl rfl rfl ?_
 refine At.val (Val.load (i := 0) Try.isAgg4 rfl rfl rfl) rfl rfl rfl ?_
 refine At.weaken [(0, _), (2, _), (6, _)] (Sub.cons rfl (Sub.cons rfl (Sub.cons rfl Sub.nil))) ?_
 refine At.boolMeet 7 13 (deadB σ) ?_ ?_
 ·skip
  simp only [List.take_succ_cons, List.take_zero]
  refine tM rfl rfl ?_
  refine At.split (t := 7) rfl (fun h1 => ?_) (fun h1 => ?_)
  ·skip
   try simp only [hasB, isSizeB, Bool.not_eq_true', Bool.not_eq_false', bne_iff_ne, ne_eq, bne_eq_false_iff_eq, beq_iff_eq, beq_eq_false_iff_ne, decide_eq_true_eq, decide_eq_false_iff_not, gt_iff_lt, ge_iff_le] at h1
   refine At.yes rfl rfl ?_
   refine tM rfl rfl ?_
   refine At.yes rfl rfl ?_
   refine At.val (Val.nilCheck rfl) rfl rfl rfl ?_
   refine At.yes rfl rfl ?_
   refine At.val (Val.field 4 rfl fo_71_4 rfl) rfl rfl rfl ?_
   refine At.yes rfl rfl ?_
   refine At.val (Val.load (i := 0) Try.isAgg3 rfl rfl rfl) rfl rfl rfl ?_
   refine At.yes rfl rfl ?_
   refine At.val (Val.bin rfl rfl rfl) rfl rfl rfl ?_
   refine At.val (Val.pickT rfl rfl) rfl rfl rfl ?_
   refine At.nil ?_
   exact At.boolEnd rfl (by unfold deadB; first | (rw [show σ.armed = true from by assumption]; simp only [Bool.true_and]; apply Bool.eq_iff_iff.2; simp only [beq_iff_eq, decide_eq_true_eq]; omega) | (rw [show σ.armed = false from by assumption]; rfl)) (by repeat (first | exact Sub.nil | refine Sub.cons rfl ?_))
  ·skip
   try simp only [hasB, isSizeB, Bool.not_eq_true', Bool.not_eq_false', bne_iff_ne, ne_eq, bne_eq_false_iff_eq, beq_iff_eq, beq_eq_false_iff_ne, decide_eq_true_eq, decide_eq_false_iff_not, gt_iff_lt, ge_iff_le] at h1
   refine At.no rfl rfl rfl rfl ?_
   refine At.no rfl rfl rfl rfl ?_
   refine At.no rfl rfl rfl rfl ?_
   refine At.no rfl rfl rfl rfl ?_
   refine At.no rfl rfl rfl rfl ?_
   refine At.val (Val.pickF rfl rfl) rfl rfl rfl ?_
   refine At.nil ?_
   exact At.boolEnd rfl (by unfold deadB; first | (rw [show σ.armed = true from by assumption]; simp only [Bool.true_and]; apply Bool.eq_iff_iff.2; simp only [beq_iff_eq, decide_eq_true_eq]; omega) | (rw [show σ.armed = false from by assumption]; rfl)) (by repeat (first | exact Sub.nil | refine Sub.cons rfl ?_))
 ·skip
  simp only [List.drop_succ_cons, List.drop_zero]
  refine tA rfl rfl ?_
  refine tE ?_
  refine At.retC ?_
  refine At.ret1 (.inl rfl) rfl rfl rfl (fun w hw => ?_)
  exact ⟨rfl, retK (F := []) hw⟩

theorem place_k (p : Nat) (γ : Gh) (σ : Ds) (a : Int) (w : World) (hd : (Dev p γ σ).holds w) :
    Upd Try.prog 38 [.pointer (some ⟨p, 0, none⟩), .int .i64 a] (Dev p γ σ) (.int .i64 (placeE σ a)) (Dev p γ σ) w := by
 refine enterVc hd Try.func38 rfl Try.ntmps38 rfl ?_
 have hgd := Dev.good hd
 have hln := hgd.len
 simp only [envOf]
 refine tR ?_
 refine tA rfl rfl ?_
 refine tE ?_
 refine At.seq ?_
 refine tR ?_
 refine tM rfl rfl ?_
 refine tM rfl rfl ?_
 refine At.callK 0 rfl (fun w hw hr => has_k _ _ _ _ _ w hr) Try.call22 rfl rfl ?_
 refine At.val (Val.not rfl) rfl rfl rfl ?_
 refine tE ?_
 refine At.cond rfl (fun h1 => ?_) (fun h1 => ?_)
 ·skip
  try simp only [hasB, isSizeB, Bool.not_eq_true', Bool.not_eq_false', bne_iff_ne, ne_eq, bne_eq_false_iff_eq, beq_iff_eq, beq_eq_false_iff_ne, decide_eq_true_eq, decide_eq_false_iff_not, gt_iff_lt, ge_iff_le] at h1
  refine tR ?_
  refine tA rfl rfl ?_
  refine tE ?_
  refine At.retC ?_
  refine At.thenR ?_
  refine At.ret1 (.inl rfl) rfl rfl rfl (fun w hw => ?_)
  exact ⟨congrArg (fun z => Ending.returned (Value.int .i64 z)) (by unfold placeE; (repeat' split) <;> omega), hw⟩
 ·skip
  try simp only [hasB, isSizeB, Bool.not_eq_true', Bool.not_eq_false', bne_iff_ne, ne_eq, bne_eq_false_iff_eq, beq_iff_eq, beq_eq_false_iff_ne, decide_eq_true_eq, decide_eq_false_iff_not, gt_iff_lt, ge_iff_le] at h1
  refine At.skipC ?_
  refine At.thenN ?_
  refine At.seq ?_
  refine tR ?_
  refine tM rfl rfl ?_
  first | refine At.val (Val.remI rfl rfl (by omega) (by decide)) rfl rfl rfl ?_ | refine At.val (Val.rem rfl rfl (by decide)) rfl rfl rfl ?_
  refine At.val (Val.bin rfl rfl rfl) rfl rfl rfl ?_
  refine tE ?_
  refine At.cond rfl (fun h2 => ?_) (fun h2 => ?_)
  ·skip
   try simp only [hasB, isSizeB, Bool.not_eq_true', Bool.not_eq_false', bne_iff_ne, ne_eq, bne_eq_false_iff_eq, beq_iff_eq, beq_eq_false_iff_ne, decide_eq_true_eq, decide_eq_false_iff_not, gt_iff_lt, ge_iff_le] at h2
   refine tR ?_
   refine tA rfl rfl ?_
   refine tE ?_
   refine At.retC ?_
   refine At.thenR ?_
   refine At.ret1 (.inl rfl) rfl rfl rfl (fun w hw => ?_)
   exact ⟨congrArg (fun z => Ending.returned (Value.int .i64 z)) (by unfold placeE; (repeat' split) <;> omega), hw⟩
  ·skip
   try simp only [hasB, isSizeB, Bool.not_eq_true', Bool.not_eq_false', bne_iff_ne, ne_eq, bne_eq_false_iff_eq, beq_iff_eq, beq_eq_false_iff_ne, decide_eq_true_eq, decide_eq_false_iff_not, gt_iff_lt, ge_iff_le] at h2
   refine At.skipC ?_
   refine At.thenN ?_
   refine tR ?_
   refine tA rfl rfl ?_
   refine tE ?_
   refine At.retC ?_
   refine At.ret1 (.inl rfl) rfl rfl rfl (fun w hw => ?_)
   exact ⟨congrArg (fun z => Ending.returned (Value.int .i64 z)) (by unfold placeE; (repeat' split) <;> omega), hw⟩

theorem step_d (p : Nat) (γ : Gh) (σ : Ds) (w : World) (hs : σ.steps + 1 ≤ 1099511627776) (hno : deadB σ = false) (hd : (Dev p γ σ).holds w) :
    DevU Try.prog 39 [.pointer (some ⟨p, 0, none⟩)] p γ σ (.int .i64 0) (stepD σ) w := by
 refine enterVc hd Try.func39 rfl Try.ntmps39 rfl ?_
 have hgd := Dev.good hd
 have hln := hgd.len
 have hlf := hgd.left
 simp only [envOf]
 refine tR ?_
 refine tA rfl rfl ?_
 refine tE ?_
 refine At.seq ?_
 refine tR ?_
 refine tM rfl rfl ?_
 refine At.callK 0 rfl (fun w hw hr => dead_k _ _ _ w hr) Try.call44 rfl rfl ?_
 refine tE ?_
 refine At.cond rfl (fun h1 => ?_) (fun h1 => ?_)
 ·skip
  try simp only [hasB, isSizeB, Bool.not_eq_true', Bool.not_eq_false', bne_iff_ne, ne_eq, bne_eq_false_iff_eq, beq_iff_eq, beq_eq_false_iff_ne, decide_eq_true_eq, decide_eq_false_iff_not, gt_iff_lt, ge_iff_le] at h1
  rw [hno] at h1; cases h1
 ·skip
  try simp only [hasB, isSizeB, Bool.not_eq_true', Bool.not_eq_false', bne_iff_ne, ne_eq, bne_eq_false_iff_eq, beq_iff_eq, beq_eq_false_iff_ne, decide_eq_true_eq, decide_eq_false_iff_not, gt_iff_lt, ge_iff_le] at h1
  refine At.skipC ?_
  refine At.thenN ?_
  refine At.seq ?_
  refine At.openS 0 rfl ?_
  simp only [devL, List.cons_append, List.nil_append, ec0, ecS]
  refine At.region ?_
  refine tM rfl rfl ?_
  refine At.val (Val.nilCheck rfl) rfl rfl rfl ?_
  refine At.val (Val.field 2 rfl fo_71_2 rfl) rfl rfl rfl ?_
  refine At.val (Val.load (i := 0) Try.isAgg3 rfl rfl rfl) rfl rfl rfl ?_
  first | refine At.val (Val.addI rfl rfl (by omega) (by omega)) rfl rfl rfl ?_ | refine At.val (Val.bin rfl rfl rfl) rfl rfl rfl ?_
  refine At.val (Val.nilCheck rfl) rfl rfl rfl ?_
  refine At.val (Val.field 2 rfl fo_71_2 rfl) rfl rfl rfl ?_
  refine At.store (i := 0) Try.sizeOf3 rfl rfl rfl rfl (by first | decide | simp) ?_
  simp only [sc0, scS]
  refine tE ?_
  refine At.seq ?_
  refine tR ?_
  refine tM rfl rfl ?_
  refine At.val (Val.nilCheck rfl) rfl rfl rfl ?_
  refine At.val (Val.field 3 rfl fo_71_3 rfl) rfl rfl rfl ?_
  refine At.val (Val.load (i := 0) Try.isAgg4 rfl rfl rfl) rfl rfl rfl ?_
  refine tE ?_
  refine At.cond rfl (fun h2 => ?_) (fun h2 => ?_)
  ·skip
   try simp only [hasB, isSizeB, Bool.not_eq_true', Bool.not_eq_false', bne_iff_ne, ne_eq, bne_eq_false_iff_eq, beq_iff_eq, beq_eq_false_iff_ne, decide_eq_true_eq, decide_eq_false_iff_not, gt_iff_lt, ge_iff_le] at h2
   have hlp : 1 ≤ σ.left := by rcases Nat.eq_zero_or_pos σ.left with h0 | h0; exact absurd hno (by unfold deadB; simp [h0, h2]); exact h0
   refine At.region ?_
   refine tM rfl rfl ?_
   refine At.val (Val.nilCheck rfl) rfl rfl rfl ?_
   refine At.val (Val.field 4 rfl fo_71_4 rfl) rfl rfl rfl ?_
   refine At.val (Val.load (i := 0) Try.isAgg3 rfl rfl rfl) rfl rfl rfl ?_
   first | refine At.val (Val.subI rfl rfl (by omega) (by omega)) rfl rfl rfl ?_ | refine At.val (Val.bin rfl rfl rfl) rfl rfl rfl ?_
   refine At.val (Val.nilCheck rfl) rfl rfl rfl ?_
   refine At.val (Val.field 4 rfl fo_71_4 rfl) rfl rfl rfl ?_
   refine At.store (i := 0) Try.sizeOf3 rfl rfl rfl rfl (by first | decide | simp) ?_
   simp only [sc0, scS]
   refine tE ?_
   refine tR ?_
   refine tA rfl rfl ?_
   refine tE ?_
   refine At.retC ?_
   refine At.ret1 (.inl rfl) rfl rfl rfl (fun w hw => ?_)
   exact ⟨γ, rfl, toDev (F := []) (dgood_step hgd hs) (hw.drop (show List.Sublist [_, _, _, _] _ from (List.Sublist.refl _ |>.cons _ |>.cons_cons _ |>.cons_cons _ |>.cons_cons _ |>.cons_cons _))) (by congr 1; simp [stepD, *]; try omega) rfl rfl rfl⟩
  ·skip
   try simp only [hasB, isSizeB, Bool.not_eq_true', Bool.not_eq_false', bne_iff_ne, ne_eq, bne_eq_false_iff_eq, beq_iff_eq, beq_eq_false_iff_ne, decide_eq_true_eq, decide_eq_false_iff_not, gt_iff_lt, ge_iff_le] at h2
   refine At.skipC ?_
   refine At.thenN ?_
   refine tR ?_
   refine tA rfl rfl ?_
   refine tE ?_
   refine At.retC ?_
   refine At.ret1 (.inl rfl) rfl rfl rfl (fun w hw => ?_)
   exact ⟨γ, rfl, toDev (F := []) (dgood_step hgd hs) (hw.drop (show List.Sublist [_, _, _, _] _ from (List.Sublist.refl _ |>.cons _ |>.cons_cons _ |>.cons_cons _ |>.cons_cons _ |>.cons_cons _))) (by congr 1; simp [stepD, *]; try omega) rfl rfl rfl⟩

theorem step_0 (p : Nat) (γ : Gh) (σ : Ds) (w : World) (hno : deadB σ = true) (hd : (Dev p γ σ).holds w) :
    Upd Try.prog 39 [.pointer (some ⟨p, 0, none⟩)] (Dev p γ σ) (.int .i64 13) (Dev p γ σ) w := by
 refine enterVc hd Try.func39 rfl Try.ntmps39 rfl ?_
 have hgd := Dev.good hd
 simp only [envOf]
 refine tR ?_
 refine tA rfl rfl ?_
 refine tE ?_
 refine At.seq ?_
 refine tR ?_
 refine tM rfl rfl ?_
 refine At.callK 0 rfl (fun w hw hr => dead_k _ _ _ w hr) Try.call44 rfl rfl ?_
 refine tE ?_
 refine At.cond rfl (fun h1 => ?_) (fun h1 => ?_)
 ·skip
  try simp only [hasB, isSizeB, Bool.not_eq_true', Bool.not_eq_false', bne_iff_ne, ne_eq, bne_eq_false_iff_eq, beq_iff_eq, beq_eq_false_iff_ne, decide_eq_true_eq, decide_eq_false_iff_not, gt_iff_lt, ge_iff_le] at h1
  refine tR ?_
  refine tA rfl rfl ?_
  refine tE ?_
  refine At.retC ?_
  refine At.thenR ?_
  refine At.ret1 (.inl rfl) rfl rfl rfl (fun w hw => ?_)
  exact ⟨rfl, hw⟩
 ·skip
  try simp only [hasB, isSizeB, Bool.not_eq_true', Bool.not_eq_false', bne_iff_ne, ne_eq, bne_eq_false_iff_eq, beq_iff_eq, beq_eq_false_iff_ne, decide_eq_true_eq, decide_eq_false_iff_not, gt_iff_lt, ge_iff_le] at h1
  rw [hno] at h1; cases h1

end Go.Proofs.Ytgighokkflchmaa
