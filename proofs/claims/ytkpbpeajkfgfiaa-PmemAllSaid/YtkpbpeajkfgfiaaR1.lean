/- The document's device: bounds, steps, fences. -/
import Derived.Test.YtkpbpeajkfgfiaaP1
import Derived.Test.YtkpbpeajkfgfiaaDv
set_option linter.unusedVariables false
set_option linter.unusedSimpArgs false
namespace Go.Proofs.Ytkpbpeajkfgfiaa
open Go Go.Wk

def hasR (ρ : Rs) (a n : Int) : Bool := decide (0 ≤ a ∧ 0 ≤ n ∧ a ≤ 64 * (ρ.ls.length : Int) ∧ n ≤ 64 * (ρ.ls.length : Int) - a)
def wrongE (ρ : Rs) (a : Int) : Int := if 0 ≤ a ∧ a < 64 * (ρ.ls.length : Int) then (if a % 8 = 0 then 0 else 12) else 11
def stepR (ρ : Rs) : Rs := { ρ with now := ρ.now + 1, left := if ρ.left > 0 then ρ.left - 1 else ρ.left }
def fenceR (ρ : Rs) : Rs := { stepR ρ with fenced := ρ.now + 1 }
def armR (ρ : Rs) (m : Nat) : Rs := { ρ with left := (m : Int) }
theorem stepR_good {ρ : Rs} (h : Rgood ρ) (hs : ρ.now + 1 ≤ 1099511627776) : Rgood (stepR ρ) :=
  ⟨h.pos, h.len, hs, Nat.le_succ_of_le h.fen, by have := h.left; unfold stepR; simp only; split <;> omega, fun l hl => by
    obtain ⟨h1, h2, h3, h4, h5⟩ := h.line l hl
    exact ⟨h1, Nat.le_succ_of_le h2, Nat.le_succ_of_le h3, fun c hc => ⟨(h4 c hc).1, Nat.le_succ_of_le (h4 c hc).2⟩, fun t ht => Nat.le_succ_of_le (h5 t ht)⟩⟩
theorem fenceR_good {ρ : Rs} (h : Rgood ρ) (hs : ρ.now + 1 ≤ 1099511627776) : Rgood (fenceR ρ) :=
  have h1 := stepR_good h hs
  ⟨h1.pos, h1.len, h1.now, Nat.le_refl _, h1.left, h1.line⟩
theorem armR_good {ρ : Rs} {m : Nat} (h : Rgood ρ) (hm : m ≤ 9223372036854775807) : Rgood (armR ρ m) := ⟨h.pos, h.len, h.now, h.fen, ⟨by show (-1 : Int) ≤ (m : Int); omega, by show (m : Int) ≤ _; omega⟩, h.line⟩

theorem rsize_k (p : Nat) (γ : Rg) (ρ : Rs) (w : World) (hd : (RDev p γ ρ).holds w) :
    Upd Try.prog 85 [.pointer (some ⟨p, 0, none⟩)] (RDev p γ ρ) (.int .i64 (64 * (ρ.ls.length : Int))) (RDev p γ ρ) w := by
 refine enterR hd Try.func85 rfl Try.ntmps85 rfl ?_
 unfold rdevL
 obtain ⟨hQ, hg⟩ := RDev.facts hd
 have hln := hg.len
 have hps := hg.pos
 have hnw := hg.now
 have h8 := first8_of hQ hg
 have hQl : γ.Q.length = ρ.ls.length := by rw [← hQ, List.length_map]
 simp only [envOf]
 refine tR ?_
 refine tA rfl rfl ?_
 refine tE ?_
 refine tR ?_
 refine tM rfl rfl ?_
 refine At.val (Val.nilCheck rfl) rfl rfl rfl ?_
 refine At.val (Val.field 0 rfl fo_134_0 rfl) rfl rfl rfl ?_
 refine At.val (Val.load (i := 0) Try.isAgg132 rfl rfl rfl) rfl rfl rfl ?_
 refine At.val (Val.lenRow (i := 1) Try.underlying132 rfl rfl) rfl rfl rfl ?_
 first | refine At.val (Val.mulI rfl rfl (by omega) (by omega)) rfl rfl rfl ?_ | refine At.val (Val.bin rfl rfl rfl) rfl rfl rfl ?_
 refine tA rfl rfl ?_
 refine tE ?_
 refine At.retC ?_
 refine At.ret1 (.inl rfl) rfl rfl rfl (fun w hw => ?_)
 exact ⟨by rw [hQl], retR (F := []) hw⟩

theorem rsteps_k (p : Nat) (γ : Rg) (ρ : Rs) (w : World) (hd : (RDev p γ ρ).holds w) :
    Upd Try.prog 94 [.pointer (some ⟨p, 0, none⟩)] (RDev p γ ρ) (.int .i64 (ρ.now : Int)) (RDev p γ ρ) w := by
 refine enterR hd Try.func94 rfl Try.ntmps94 rfl ?_
 unfold rdevL
 obtain ⟨hQ, hg⟩ := RDev.facts hd
 have hln := hg.len
 have hps := hg.pos
 have hnw := hg.now
 have h8 := first8_of hQ hg
 have hQl : γ.Q.length = ρ.ls.length := by rw [← hQ, List.length_map]
 simp only [envOf]
 refine tR ?_
 refine tA rfl rfl ?_
 refine tE ?_
 refine tR ?_
 refine tM rfl rfl ?_
 refine At.val (Val.nilCheck rfl) rfl rfl rfl ?_
 refine At.val (Val.field 2 rfl fo_134_2 rfl) rfl rfl rfl ?_
 refine At.val (Val.load (i := 0) Try.isAgg3 rfl rfl rfl) rfl rfl rfl ?_
 refine tA rfl rfl ?_
 refine tE ?_
 refine At.retC ?_
 refine At.ret1 (.inl rfl) rfl rfl rfl (fun w hw => ?_)
 exact ⟨rfl, retR (F := []) hw⟩

theorem rdead_k (p : Nat) (γ : Rg) (ρ : Rs) (w : World) (hd : (RDev p γ ρ).holds w) :
    Upd Try.prog 95 [.pointer (some ⟨p, 0, none⟩)] (RDev p γ ρ) (.bool (ρ.left == 0)) (RDev p γ ρ) w := by
 refine enterR hd Try.func95 rfl Try.ntmps95 rfl ?_
 unfold rdevL
 obtain ⟨hQ, hg⟩ := RDev.facts hd
 have hln := hg.len
 have hps := hg.pos
 have hnw := hg.now
 have h8 := first8_of hQ hg
 have hQl : γ.Q.length = ρ.ls.length := by rw [← hQ, List.length_map]
 simp only [envOf]
 refine tR ?_
 refine tA rfl rfl ?_
 refine tE ?_
 refine tR ?_
 refine tM rfl rfl ?_
 refine At.val (Val.nilCheck rfl) rfl rfl rfl ?_
 refine At.val (Val.field 3 rfl fo_134_3 rfl) rfl rfl rfl ?_
 refine At.val (Val.load (i := 0) Try.isAgg3 rfl rfl rfl) rfl rfl rfl ?_
 refine At.val (Val.bin rfl rfl rfl) rfl rfl rfl ?_
 refine tA rfl rfl ?_
 refine tE ?_
 refine At.retC ?_
 refine At.ret1 (.inl rfl) rfl rfl rfl (fun w hw => ?_)
 exact ⟨rfl, retR (F := []) hw⟩

theorem inside_k (p : Nat) (γ : Rg) (ρ : Rs) (a n : Int) (w : World) (hd : (RDev p γ ρ).holds w) :
    Upd Try.prog 116 [.pointer (some ⟨p, 0, none⟩), .int .i64 a, .int .i64 n] (RDev p γ ρ) (.bool (hasR ρ a n)) (RDev p γ ρ) w := by
 refine enterRc hd Try.func116 rfl Try.ntmps116 rfl ?_
 obtain ⟨hQ, hg⟩ := RDev.facts hd
 have hln := hg.len
 have hps := hg.pos
 have hnw := hg.now
 simp only [envOf]
 refine tR ?_
 refine tA rfl rfl ?_
 refine tE ?_
 refine tR ?_
 refine tM rfl rfl ?_
 refine At.weaken [(0, _), (1, _), (2, _), (6, _), (7, _)] (Sub.cons rfl (Sub.cons rfl (Sub.cons rfl (Sub.cons rfl (Sub.cons rfl Sub.nil))))) ?_
 refine At.boolMeet 19 26 (hasR ρ a n) ?_ ?_
 ·skip
  simp only [List.take_succ_cons, List.take_zero]
  refine At.val (Val.bin rfl rfl rfl) rfl rfl rfl ?_
  refine tM rfl rfl ?_
  refine At.split (t := 9) rfl (fun h1 => ?_) (fun h1 => ?_)
  ·skip
   try simp only [hasB, isSizeB, Bool.not_eq_true', Bool.not_eq_false', bne_iff_ne, ne_eq, bne_eq_false_iff_eq, beq_iff_eq, beq_eq_false_iff_ne, decide_eq_true_eq, decide_eq_false_iff_not, gt_iff_lt, ge_iff_le] at h1
   refine At.yes rfl rfl ?_
   refine tM rfl rfl ?_
   refine At.yes rfl rfl ?_
   refine At.val (Val.bin rfl rfl rfl) rfl rfl rfl ?_
   refine At.val (Val.pickT rfl rfl) rfl rfl rfl ?_
   refine tM rfl rfl ?_
   refine At.split (t := 13) rfl (fun h2 => ?_) (fun h2 => ?_)
   ·skip
    try simp only [hasB, isSizeB, Bool.not_eq_true', Bool.not_eq_false', bne_iff_ne, ne_eq, bne_eq_false_iff_eq, beq_iff_eq, beq_eq_false_iff_ne, decide_eq_true_eq, decide_eq_false_iff_not, gt_iff_lt, ge_iff_le] at h2
    refine At.yes rfl rfl ?_
    refine tM rfl rfl ?_
    refine At.yes rfl rfl ?_
    refine tM rfl rfl ?_
    refine At.yes rfl rfl ?_
    refine At.callK 0 rfl (fun w hw hr => rsize_k _ _ _ w hr) Try.call85 rfl rfl ?_
    refine At.yes rfl rfl ?_
    refine At.val (Val.bin rfl rfl rfl) rfl rfl rfl ?_
    refine At.val (Val.pickT rfl rfl) rfl rfl rfl ?_
    refine tM rfl rfl ?_
    refine At.split (t := 19) rfl (fun h3 => ?_) (fun h3 => ?_)
    ·skip
     try simp only [hasB, isSizeB, Bool.not_eq_true', Bool.not_eq_false', bne_iff_ne, ne_eq, bne_eq_false_iff_eq, beq_iff_eq, beq_eq_false_iff_ne, decide_eq_true_eq, decide_eq_false_iff_not, gt_iff_lt, ge_iff_le] at h3
     refine At.yes rfl rfl ?_
     refine tM rfl rfl ?_
     refine At.yes rfl rfl ?_
     refine tM rfl rfl ?_
     refine At.yes rfl rfl ?_
     refine At.callK 0 rfl (fun w hw hr => rsize_k _ _ _ w hr) Try.call85 rfl rfl ?_
     refine At.yes rfl rfl ?_
     refine tM rfl rfl ?_
     refine At.yes rfl rfl ?_
     first | refine At.val (Val.subI rfl rfl (by omega) (by omega)) rfl rfl rfl ?_ | refine At.val (Val.bin rfl rfl rfl) rfl rfl rfl ?_
     refine At.yes rfl rfl ?_
     refine At.val (Val.bin rfl rfl rfl) rfl rfl rfl ?_
     refine At.val (Val.pickT rfl rfl) rfl rfl rfl ?_
     refine At.nil ?_
     exact At.boolEnd rfl (by unfold hasR; exact (by first | exact (decide_eq_true (by omega)).symm | exact (decide_eq_false (by omega)).symm | (apply Bool.eq_iff_iff.2; simp only [decide_eq_true_eq, beq_iff_eq, bne_iff_ne, ne_eq, Bool.not_eq_true', decide_eq_false_iff_not]; omega) | rfl | (simp_all; done) | (simp_all; omega))) (by repeat (first | exact Sub.nil | refine Sub.cons rfl ?_))
    ·skip
     try simp only [hasB, isSizeB, Bool.not_eq_true', Bool.not_eq_false', bne_iff_ne, ne_eq, bne_eq_false_iff_eq, beq_iff_eq, beq_eq_false_iff_ne, decide_eq_true_eq, decide_eq_false_iff_not, gt_iff_lt, ge_iff_le] at h3
     refine At.no rfl rfl rfl rfl ?_
     refine At.no rfl rfl rfl rfl ?_
     refine At.no rfl rfl rfl rfl ?_
     refine At.no rfl rfl rfl rfl ?_
     refine At.no rfl rfl rfl rfl ?_
     refine At.no rfl rfl rfl rfl ?_
     refine At.val (Val.pickF rfl rfl) rfl rfl rfl ?_
     refine At.nil ?_
     exact At.boolEnd rfl (by unfold hasR; exact (by first | exact (decide_eq_true (by omega)).symm | exact (decide_eq_false (by omega)).symm | (apply Bool.eq_iff_iff.2; simp only [decide_eq_true_eq, beq_iff_eq, bne_iff_ne, ne_eq, Bool.not_eq_true', decide_eq_false_iff_not]; omega) | rfl | (simp_all; done) | (simp_all; omega))) (by repeat (first | exact Sub.nil | refine Sub.cons rfl ?_))
   ·skip
    try simp only [hasB, isSizeB, Bool.not_eq_true', Bool.not_eq_false', bne_iff_ne, ne_eq, bne_eq_false_iff_eq, beq_iff_eq, beq_eq_false_iff_ne, decide_eq_true_eq, decide_eq_false_iff_not, gt_iff_lt, ge_iff_le] at h2
    refine At.no rfl rfl rfl rfl ?_
    refine At.no rfl rfl rfl rfl ?_
    refine At.no rfl rfl rfl rfl ?_
    refine At.no rfl rfl rfl rfl ?_
    refine At.val (Val.pickF rfl rfl) rfl rfl rfl ?_
    refine tM rfl rfl ?_
    refine At.no rfl rfl rfl rfl ?_
    refine At.no rfl rfl rfl rfl ?_
    refine At.no rfl rfl rfl rfl ?_
    refine At.no rfl rfl rfl rfl ?_
    refine At.no rfl rfl rfl rfl ?_
    refine At.no rfl rfl rfl rfl ?_
    refine At.val (Val.pickF rfl rfl) rfl rfl rfl ?_
    refine At.nil ?_
    exact At.boolEnd rfl (by unfold hasR; exact (by first | exact (decide_eq_true (by omega)).symm | exact (decide_eq_false (by omega)).symm | (apply Bool.eq_iff_iff.2; simp only [decide_eq_true_eq, beq_iff_eq, bne_iff_ne, ne_eq, Bool.not_eq_true', decide_eq_false_iff_not]; omega) | rfl | (simp_all; done) | (simp_all; omega))) (by repeat (first | exact Sub.nil | refine Sub.cons rfl ?_))
  ·skip
   try simp only [hasB, isSizeB, Bool.not_eq_true', Bool.not_eq_false', bne_iff_ne, ne_eq, bne_eq_false_iff_eq, beq_iff_eq, beq_eq_false_iff_ne, decide_eq_true_eq, decide_eq_false_iff_not, gt_iff_lt, ge_iff_le] at h1
   refine At.no rfl rfl rfl rfl ?_
   refine At.no rfl rfl rfl rfl ?_
   refine At.val (Val.pickF rfl rfl) rfl rfl rfl ?_
   refine tM rfl rfl ?_
   refine At.no rfl rfl rfl rfl ?_
   refine At.no rfl rfl rfl rfl ?_
   refine At.no rfl rfl rfl rfl ?_
   refine At.no rfl rfl rfl rfl ?_
   refine At.val (Val.pickF rfl rfl) rfl rfl rfl ?_
   refine tM rfl rfl ?_
   refine At.no rfl rfl rfl rfl ?_
   refine At.no rfl rfl rfl rfl ?_
   refine At.no rfl rfl rfl rfl ?_
   refine At.no rfl rfl rfl rfl ?_
   refine At.no rfl rfl rfl rfl ?_
   refine At.no rfl rfl rfl rfl ?_
   refine At.val (Val.pickF rfl rfl) rfl rfl rfl ?_
   refine At.nil ?_
   exact At.boolEnd rfl (by unfold hasR; exact (by first | exact (decide_eq_true (by omega)).symm | exact (decide_eq_false (by omega)).symm | (apply Bool.eq_iff_iff.2; simp only [decide_eq_true_eq, beq_iff_eq, bne_iff_ne, ne_eq, Bool.not_eq_true', decide_eq_false_iff_not]; omega) | rfl | (simp_all; done) | (simp_all; omega))) (by repeat (first | exact Sub.nil | refine Sub.cons rfl ?_))
 ·skip
  simp only [List.drop_succ_cons, List.drop_zero]
  refine tA rfl rfl ?_
  refine tE ?_
  refine At.retC ?_
  refine At.ret1 (.inl rfl) rfl rfl rfl (fun w hw => ?_)
  exact ⟨rfl, hw⟩

theorem wrong_k (p : Nat) (γ : Rg) (ρ : Rs) (a : Int) (w : World) (hd : (RDev p γ ρ).holds w) :
    Upd Try.prog 114 [.pointer (some ⟨p, 0, none⟩), .int .i64 a] (RDev p γ ρ) (.int .i64 (wrongE ρ a)) (RDev p γ ρ) w := by
 refine enterRc hd Try.func114 rfl Try.ntmps114 rfl ?_
 obtain ⟨hQ, hg⟩ := RDev.facts hd
 have hln := hg.len
 have hps := hg.pos
 have hnw := hg.now
 simp only [envOf]
 refine tR ?_
 refine tA rfl rfl ?_
 refine tE ?_
 refine At.seq ?_
 refine tR ?_
 refine tM rfl rfl ?_
 refine At.weaken [(0, _), (1, _), (4, _), (5, _)] (Sub.cons rfl (Sub.cons rfl (Sub.cons rfl (Sub.cons rfl Sub.nil)))) ?_
 refine At.boolMeet 7 12 (decide (a < 0 ∨ 64 * (ρ.ls.length : Int) ≤ a)) ?_ ?_
 ·skip
  simp only [List.take_succ_cons, List.take_zero]
  refine At.val (Val.bin rfl rfl rfl) rfl rfl rfl ?_
  refine tM rfl rfl ?_
  refine At.split (t := 7) rfl (fun h1 => ?_) (fun h1 => ?_)
  ·skip
   try simp only [hasB, isSizeB, Bool.not_eq_true', Bool.not_eq_false', bne_iff_ne, ne_eq, bne_eq_false_iff_eq, beq_iff_eq, beq_eq_false_iff_ne, decide_eq_true_eq, decide_eq_false_iff_not, gt_iff_lt, ge_iff_le] at h1
   refine At.no rfl rfl rfl rfl ?_
   refine At.no rfl rfl rfl rfl ?_
   refine At.no rfl rfl rfl rfl ?_
   refine At.no rfl rfl rfl rfl ?_
   refine At.val (Val.pickT rfl rfl) rfl rfl rfl ?_
   refine At.nil ?_
   exact At.boolEnd rfl (by first | exact (decide_eq_true (by omega)).symm | exact (decide_eq_false (by omega)).symm | (apply Bool.eq_iff_iff.2; simp only [decide_eq_true_eq, beq_iff_eq, bne_iff_ne, ne_eq, Bool.not_eq_true', decide_eq_false_iff_not]; omega) | rfl | (simp_all; done) | (simp_all; omega)) (by repeat (first | exact Sub.nil | refine Sub.cons rfl ?_))
  ·skip
   try simp only [hasB, isSizeB, Bool.not_eq_true', Bool.not_eq_false', bne_iff_ne, ne_eq, bne_eq_false_iff_eq, beq_iff_eq, beq_eq_false_iff_ne, decide_eq_true_eq, decide_eq_false_iff_not, gt_iff_lt, ge_iff_le] at h1
   refine At.yes rfl rfl ?_
   refine tM rfl rfl ?_
   refine At.yes rfl rfl ?_
   refine tM rfl rfl ?_
   refine At.yes rfl rfl ?_
   refine At.callK 0 rfl (fun w hw hr => rsize_k _ _ _ w hr) Try.call85 rfl rfl ?_
   refine At.yes rfl rfl ?_
   refine At.val (Val.bin rfl rfl rfl) rfl rfl rfl ?_
   refine At.val (Val.pickF rfl rfl) rfl rfl rfl ?_
   refine At.nil ?_
   exact At.boolEnd rfl (by first | exact (decide_eq_true (by omega)).symm | exact (decide_eq_false (by omega)).symm | (apply Bool.eq_iff_iff.2; simp only [decide_eq_true_eq, beq_iff_eq, bne_iff_ne, ne_eq, Bool.not_eq_true', decide_eq_false_iff_not]; omega) | rfl | (simp_all; done) | (simp_all; omega)) (by repeat (first | exact Sub.nil | refine Sub.cons rfl ?_))
 ·skip
  simp only [List.drop_succ_cons, List.drop_zero]
  refine tE ?_
  refine At.cond rfl (fun h2 => ?_) (fun h2 => ?_)
  ·skip
   try simp only [hasB, isSizeB, Bool.not_eq_true', Bool.not_eq_false', bne_iff_ne, ne_eq, bne_eq_false_iff_eq, beq_iff_eq, beq_eq_false_iff_ne, decide_eq_true_eq, decide_eq_false_iff_not, gt_iff_lt, ge_iff_le] at h2
   refine tR ?_
   refine tA rfl rfl ?_
   refine tE ?_
   refine At.retC ?_
   refine At.thenR ?_
   refine At.ret1 (.inl rfl) rfl rfl rfl (fun w hw => ?_)
   exact ⟨congrArg (fun z => Ending.returned (Value.int .i64 z)) (by unfold wrongE; (repeat' split) <;> omega), hw⟩
  ·skip
   try simp only [hasB, isSizeB, Bool.not_eq_true', Bool.not_eq_false', bne_iff_ne, ne_eq, bne_eq_false_iff_eq, beq_iff_eq, beq_eq_false_iff_ne, decide_eq_true_eq, decide_eq_false_iff_not, gt_iff_lt, ge_iff_le] at h2
   refine At.skipC ?_
   refine At.thenN ?_
   refine At.seq ?_
   refine tR ?_
   refine tM rfl rfl ?_
   first | refine At.val (Val.remI rfl rfl (by omega) (by decide)) rfl rfl rfl ?_ | refine At.val (Val.rem rfl rfl (by decide)) rfl rfl rfl ?_
   refine At.val (Val.bin rfl rfl rfl) rfl rfl rfl ?_
   refine tE ?_
   refine At.cond rfl (fun h3 => ?_) (fun h3 => ?_)
   ·skip
    try simp only [hasB, isSizeB, Bool.not_eq_true', Bool.not_eq_false', bne_iff_ne, ne_eq, bne_eq_false_iff_eq, beq_iff_eq, beq_eq_false_iff_ne, decide_eq_true_eq, decide_eq_false_iff_not, gt_iff_lt, ge_iff_le] at h3
    refine tR ?_
    refine tA rfl rfl ?_
    refine tE ?_
    refine At.retC ?_
    refine At.thenR ?_
    refine At.ret1 (.inl rfl) rfl rfl rfl (fun w hw => ?_)
    exact ⟨congrArg (fun z => Ending.returned (Value.int .i64 z)) (by unfold wrongE; (repeat' split) <;> omega), hw⟩
   ·skip
    try simp only [hasB, isSizeB, Bool.not_eq_true', Bool.not_eq_false', bne_iff_ne, ne_eq, bne_eq_false_iff_eq, beq_iff_eq, beq_eq_false_iff_ne, decide_eq_true_eq, decide_eq_false_iff_not, gt_iff_lt, ge_iff_le] at h3
    refine At.skipC ?_
    refine At.thenN ?_
    refine tR ?_
    refine tA rfl rfl ?_
    refine tE ?_
    refine At.retC ?_
    refine At.ret1 (.inl rfl) rfl rfl rfl (fun w hw => ?_)
    exact ⟨congrArg (fun z => Ending.returned (Value.int .i64 z)) (by unfold wrongE; (repeat' split) <;> omega), hw⟩

theorem rstep_d (p : Nat) (γ : Rg) (ρ : Rs) (w : World) (hs : ρ.now + 1 ≤ 1099511627776) (hno : ρ.left ≠ 0) (hd : (RDev p γ ρ).holds w) :
    RDevU Try.prog 117 [.pointer (some ⟨p, 0, none⟩)] p γ ρ (.int .i64 ((ρ.now + 1 : Nat) : Int)) (stepR ρ) w := by
 refine enterR hd Try.func117 rfl Try.ntmps117 rfl ?_
 unfold rdevL
 obtain ⟨hQ, hg⟩ := RDev.facts hd
 have hln := hg.len
 have hps := hg.pos
 have hnw := hg.now
 have h8 := first8_of hQ hg
 have hQl : γ.Q.length = ρ.ls.length := by rw [← hQ, List.length_map]
 have hlf := hg.left
 simp only [envOf]
 refine tR ?_
 refine tA rfl rfl ?_
 refine tE ?_
 refine At.seq ?_
 refine tR ?_
 refine tM rfl rfl ?_
 refine At.val (Val.nilCheck rfl) rfl rfl rfl ?_
 refine At.val (Val.field 3 rfl fo_134_3 rfl) rfl rfl rfl ?_
 refine At.val (Val.load (i := 0) Try.isAgg3 rfl rfl rfl) rfl rfl rfl ?_
 refine At.val (Val.bin rfl rfl rfl) rfl rfl rfl ?_
 refine tE ?_
 refine At.cond rfl (fun h1 => ?_) (fun h1 => ?_)
 ·skip
  try simp only [hasB, isSizeB, Bool.not_eq_true', Bool.not_eq_false', bne_iff_ne, ne_eq, bne_eq_false_iff_eq, beq_iff_eq, beq_eq_false_iff_ne, decide_eq_true_eq, decide_eq_false_iff_not, gt_iff_lt, ge_iff_le] at h1
  exact absurd h1 hno
 ·skip
  try simp only [hasB, isSizeB, Bool.not_eq_true', Bool.not_eq_false', bne_iff_ne, ne_eq, bne_eq_false_iff_eq, beq_iff_eq, beq_eq_false_iff_ne, decide_eq_true_eq, decide_eq_false_iff_not, gt_iff_lt, ge_iff_le] at h1
  refine At.skipC ?_
  refine At.thenN ?_
  refine At.seq ?_
  refine tR ?_
  refine tM rfl rfl ?_
  refine At.val (Val.nilCheck rfl) rfl rfl rfl ?_
  refine At.val (Val.field 3 rfl fo_134_3 rfl) rfl rfl rfl ?_
  refine At.val (Val.load (i := 0) Try.isAgg3 rfl rfl rfl) rfl rfl rfl ?_
  refine At.val (Val.bin rfl rfl rfl) rfl rfl rfl ?_
  refine tE ?_
  refine At.cond rfl (fun h2 => ?_) (fun h2 => ?_)
  ·skip
   try simp only [hasB, isSizeB, Bool.not_eq_true', Bool.not_eq_false', bne_iff_ne, ne_eq, bne_eq_false_iff_eq, beq_iff_eq, beq_eq_false_iff_ne, decide_eq_true_eq, decide_eq_false_iff_not, gt_iff_lt, ge_iff_le] at h2
   refine At.region ?_
   refine tM rfl rfl ?_
   refine tM rfl rfl ?_
   refine At.val (Val.nilCheck rfl) rfl rfl rfl ?_
   refine At.val (Val.field 3 rfl fo_134_3 rfl) rfl rfl rfl ?_
   refine At.val (Val.load (i := 0) Try.isAgg3 rfl rfl rfl) rfl rfl rfl ?_
   first | refine At.val (Val.subI rfl rfl (by omega) (by omega)) rfl rfl rfl ?_ | refine At.val (Val.bin rfl rfl rfl) rfl rfl rfl ?_
   refine At.val (Val.nilCheck rfl) rfl rfl rfl ?_
   refine At.val (Val.field 3 rfl fo_134_3 rfl) rfl rfl rfl ?_
   refine At.store (i := 0) Try.sizeOf3 rfl rfl rfl rfl (by first | decide | simp) ?_
   simp only [sc0, scS]
   refine tE ?_
   refine tR ?_
   refine tM rfl rfl ?_
   refine tM rfl rfl ?_
   refine At.val (Val.nilCheck rfl) rfl rfl rfl ?_
   refine At.val (Val.field 2 rfl fo_134_2 rfl) rfl rfl rfl ?_
   refine At.val (Val.load (i := 0) Try.isAgg3 rfl rfl rfl) rfl rfl rfl ?_
   first | refine At.val (Val.addI rfl rfl (by omega) (by omega)) rfl rfl rfl ?_ | refine At.val (Val.bin rfl rfl rfl) rfl rfl rfl ?_
   refine At.val (Val.nilCheck rfl) rfl rfl rfl ?_
   refine At.val (Val.field 2 rfl fo_134_2 rfl) rfl rfl rfl ?_
   refine At.store (i := 0) Try.sizeOf3 rfl rfl rfl rfl (by first | decide | simp) ?_
   simp only [sc0, scS]
   refine tE ?_
   refine tR ?_
   refine tM rfl rfl ?_
   refine At.val (Val.nilCheck rfl) rfl rfl rfl ?_
   refine At.val (Val.field 2 rfl fo_134_2 rfl) rfl rfl rfl ?_
   refine At.val (Val.load (i := 0) Try.isAgg3 rfl rfl rfl) rfl rfl rfl ?_
   refine tA rfl rfl ?_
   refine tE ?_
   refine At.retC ?_
   refine At.ret1 (.inl rfl) rfl rfl rfl (fun w hw => ?_)
   exact ⟨γ, rfl, toRDev1 hQ (stepR_good hg hs) hw (by first | rfl | (congr 1; simp [stepR, fenceR, armR, *]; try omega)) rfl rfl⟩
  ·skip
   try simp only [hasB, isSizeB, Bool.not_eq_true', Bool.not_eq_false', bne_iff_ne, ne_eq, bne_eq_false_iff_eq, beq_iff_eq, beq_eq_false_iff_ne, decide_eq_true_eq, decide_eq_false_iff_not, gt_iff_lt, ge_iff_le] at h2
   refine At.skipC ?_
   refine At.thenN ?_
   refine tR ?_
   refine tM rfl rfl ?_
   refine tM rfl rfl ?_
   refine At.val (Val.nilCheck rfl) rfl rfl rfl ?_
   refine At.val (Val.field 2 rfl fo_134_2 rfl) rfl rfl rfl ?_
   refine At.val (Val.load (i := 0) Try.isAgg3 rfl rfl rfl) rfl rfl rfl ?_
   first | refine At.val (Val.addI rfl rfl (by omega) (by omega)) rfl rfl rfl ?_ | refine At.val (Val.bin rfl rfl rfl) rfl rfl rfl ?_
   refine At.val (Val.nilCheck rfl) rfl rfl rfl ?_
   refine At.val (Val.field 2 rfl fo_134_2 rfl) rfl rfl rfl ?_
   refine At.store (i := 0) Try.sizeOf3 rfl rfl rfl rfl (by first | decide | simp) ?_
   simp only [sc0, scS]
   refine tE ?_
   refine tR ?_
   refine tM rfl rfl ?_
   refine At.val (Val.nilCheck rfl) rfl rfl rfl ?_
   refine At.val (Val.field 2 rfl fo_134_2 rfl) rfl rfl rfl ?_
   refine At.val (Val.load (i := 0) Try.isAgg3 rfl rfl rfl) rfl rfl rfl ?_
   refine tA rfl rfl ?_
   refine tE ?_
   refine At.retC ?_
   refine At.ret1 (.inl rfl) rfl rfl rfl (fun w hw => ?_)
   exact ⟨γ, rfl, toRDev1 hQ (stepR_good hg hs) hw (by first | rfl | (congr 1; simp [stepR, fenceR, armR, *]; try omega)) rfl rfl⟩

theorem rstep_0 (p : Nat) (γ : Rg) (ρ : Rs) (w : World) (hno : ρ.left = 0) (hd : (RDev p γ ρ).holds w) :
    Upd Try.prog 117 [.pointer (some ⟨p, 0, none⟩)] (RDev p γ ρ) (.int .i64 0) (RDev p γ ρ) w := by
 refine enterR hd Try.func117 rfl Try.ntmps117 rfl ?_
 unfold rdevL
 obtain ⟨hQ, hg⟩ := RDev.facts hd
 have hln := hg.len
 have hps := hg.pos
 have hnw := hg.now
 have h8 := first8_of hQ hg
 have hQl : γ.Q.length = ρ.ls.length := by rw [← hQ, List.length_map]
 simp only [envOf]
 refine tR ?_
 refine tA rfl rfl ?_
 refine tE ?_
 refine At.seq ?_
 refine tR ?_
 refine tM rfl rfl ?_
 refine At.val (Val.nilCheck rfl) rfl rfl rfl ?_
 refine At.val (Val.field 3 rfl fo_134_3 rfl) rfl rfl rfl ?_
 refine At.val (Val.load (i := 0) Try.isAgg3 rfl rfl rfl) rfl rfl rfl ?_
 refine At.val (Val.bin rfl rfl rfl) rfl rfl rfl ?_
 refine tE ?_
 refine At.cond rfl (fun h1 => ?_) (fun h1 => ?_)
 ·skip
  try simp only [hasB, isSizeB, Bool.not_eq_true', Bool.not_eq_false', bne_iff_ne, ne_eq, bne_eq_false_iff_eq, beq_iff_eq, beq_eq_false_iff_ne, decide_eq_true_eq, decide_eq_false_iff_not, gt_iff_lt, ge_iff_le] at h1
  refine tR ?_
  refine tA rfl rfl ?_
  refine tE ?_
  refine At.retC ?_
  refine At.thenR ?_
  refine At.ret1 (.inl rfl) rfl rfl rfl (fun w hw => ?_)
  exact ⟨rfl, retR (F := []) hw⟩
 ·skip
  try simp only [hasB, isSizeB, Bool.not_eq_true', Bool.not_eq_false', bne_iff_ne, ne_eq, bne_eq_false_iff_eq, beq_iff_eq, beq_eq_false_iff_ne, decide_eq_true_eq, decide_eq_false_iff_not, gt_iff_lt, ge_iff_le] at h1
  exact absurd hno h1

theorem rfence_d (p : Nat) (γ : Rg) (ρ : Rs) (w : World) (hs : ρ.now + 1 ≤ 1099511627776) (hno : ρ.left ≠ 0) (hd : (RDev p γ ρ).holds w) :
    RDevU Try.prog 92 [.pointer (some ⟨p, 0, none⟩)] p γ ρ (.int .i64 0) (fenceR ρ) w := by
 refine enterRc hd Try.func92 rfl Try.ntmps92 rfl ?_
 obtain ⟨hQ, hg⟩ := RDev.facts hd
 have hln := hg.len
 have hps := hg.pos
 have hnw := hg.now
 simp only [envOf]
 refine tR ?_
 refine tA rfl rfl ?_
 refine tE ?_
 refine tR ?_
 refine tM rfl rfl ?_
 refine At.callRD 0 rfl (fun w hw hr => rstep_d _ _ _ w hs hno hr) Try.call117 rfl rfl (fun y1 => ?_)
 simp only [sc0, scS]
 refine tA rfl rfl ?_
 refine tE ?_
 refine At.seq ?_
 refine tR ?_
 refine tM rfl rfl ?_
 refine At.val (Val.bin rfl rfl rfl) rfl rfl rfl ?_
 refine tE ?_
 refine At.cond rfl (fun h2 => ?_) (fun h2 => ?_)
 ·skip
  try simp only [hasB, isSizeB, Bool.not_eq_true', Bool.not_eq_false', bne_iff_ne, ne_eq, bne_eq_false_iff_eq, beq_iff_eq, beq_eq_false_iff_ne, decide_eq_true_eq, decide_eq_false_iff_not, gt_iff_lt, ge_iff_le] at h2
  omega
 ·skip
  try simp only [hasB, isSizeB, Bool.not_eq_true', Bool.not_eq_false', bne_iff_ne, ne_eq, bne_eq_false_iff_eq, beq_iff_eq, beq_eq_false_iff_ne, decide_eq_true_eq, decide_eq_false_iff_not, gt_iff_lt, ge_iff_le] at h2
  refine At.skipC ?_
  refine At.thenN ?_
  refine At.seq ?_
  refine At.openS 0 rfl ?_
  simp only [rdevL, List.cons_append, List.nil_append, ec0, ecS]
  refine At.fact 3 rfl (fun hf => ?_)
  obtain ⟨hQ1, hg1⟩ := hf
  have h81 := first8_of hQ1 hg1
  have hQl1 : y1.Q.length = (stepR ρ).ls.length := by rw [← hQ1, List.length_map]
  refine At.region ?_
  refine tM rfl rfl ?_
  refine tM rfl rfl ?_
  refine At.val (Val.nilCheck rfl) rfl rfl rfl ?_
  refine At.val (Val.field 1 rfl fo_134_1 rfl) rfl rfl rfl ?_
  refine At.store (i := 0) Try.sizeOf3 rfl rfl rfl rfl (by first | decide | simp) ?_
  simp only [sc0, scS]
  refine tE ?_
  refine tR ?_
  refine tA rfl rfl ?_
  refine tE ?_
  refine At.retC ?_
  refine At.ret1 (.inl rfl) rfl rfl rfl (fun w hw => ?_)
  exact ⟨y1, rfl, toRDev1 hQ1 (fenceR_good hg hs) hw rfl rfl rfl⟩

theorem rfence_0 (p : Nat) (γ : Rg) (ρ : Rs) (w : World) (hno : ρ.left = 0) (hd : (RDev p γ ρ).holds w) :
    Upd Try.prog 92 [.pointer (some ⟨p, 0, none⟩)] (RDev p γ ρ) (.int .i64 13) (RDev p γ ρ) w := by
 refine enterRc hd Try.func92 rfl Try.ntmps92 rfl ?_
 obtain ⟨hQ, hg⟩ := RDev.facts hd
 have hln := hg.len
 have hps := hg.pos
 have hnw := hg.now
 simp only [envOf]
 refine tR ?_
 refine tA rfl rfl ?_
 refine tE ?_
 refine tR ?_
 refine tM rfl rfl ?_
 refine At.callK 0 rfl (fun w hw hr => rstep_0 _ _ _ w hno hr) Try.call117 rfl rfl ?_
 refine tA rfl rfl ?_
 refine tE ?_
 refine At.seq ?_
 refine tR ?_
 refine tM rfl rfl ?_
 refine At.val (Val.bin rfl rfl rfl) rfl rfl rfl ?_
 refine tE ?_
 refine At.condT rfl ?_
 refine tR ?_
 refine tA rfl rfl ?_
 refine tE ?_
 refine At.retC ?_
 refine At.thenR ?_
 refine At.ret1 (.inl rfl) rfl rfl rfl (fun w hw => ?_)
 exact ⟨rfl, hw⟩

theorem rarm_d (p : Nat) (γ : Rg) (ρ : Rs) (m : Nat) (w : World) (hm : m ≤ 9223372036854775807) (hno : ρ.left ≠ 0) (hd : (RDev p γ ρ).holds w) :
    RDevU Try.prog 93 [.pointer (some ⟨p, 0, none⟩), .int .i64 (m : Int)] p γ ρ (.int .i64 0) (armR ρ m) w := by
 refine enterR hd Try.func93 rfl Try.ntmps93 rfl ?_
 unfold rdevL
 obtain ⟨hQ, hg⟩ := RDev.facts hd
 have hln := hg.len
 have hps := hg.pos
 have hnw := hg.now
 have h8 := first8_of hQ hg
 have hQl : γ.Q.length = ρ.ls.length := by rw [← hQ, List.length_map]
 simp only [envOf]
 refine tR ?_
 refine tA rfl rfl ?_
 refine tE ?_
 refine At.seq ?_
 refine tR ?_
 refine tM rfl rfl ?_
 refine At.val (Val.bin rfl rfl rfl) rfl rfl rfl ?_
 refine tE ?_
 refine At.cond rfl (fun h1 => ?_) (fun h1 => ?_)
 ·skip
  try simp only [hasB, isSizeB, Bool.not_eq_true', Bool.not_eq_false', bne_iff_ne, ne_eq, bne_eq_false_iff_eq, beq_iff_eq, beq_eq_false_iff_ne, decide_eq_true_eq, decide_eq_false_iff_not, gt_iff_lt, ge_iff_le] at h1
  omega
 ·skip
  try simp only [hasB, isSizeB, Bool.not_eq_true', Bool.not_eq_false', bne_iff_ne, ne_eq, bne_eq_false_iff_eq, beq_iff_eq, beq_eq_false_iff_ne, decide_eq_true_eq, decide_eq_false_iff_not, gt_iff_lt, ge_iff_le] at h1
  refine At.skipC ?_
  refine At.thenN ?_
  refine At.seq ?_
  refine tR ?_
  refine tM rfl rfl ?_
  refine At.val (Val.nilCheck rfl) rfl rfl rfl ?_
  refine At.val (Val.field 3 rfl fo_134_3 rfl) rfl rfl rfl ?_
  refine At.val (Val.load (i := 0) Try.isAgg3 rfl rfl rfl) rfl rfl rfl ?_
  refine At.val (Val.bin rfl rfl rfl) rfl rfl rfl ?_
  refine tE ?_
  refine At.cond rfl (fun h2 => ?_) (fun h2 => ?_)
  ·skip
   try simp only [hasB, isSizeB, Bool.not_eq_true', Bool.not_eq_false', bne_iff_ne, ne_eq, bne_eq_false_iff_eq, beq_iff_eq, beq_eq_false_iff_ne, decide_eq_true_eq, decide_eq_false_iff_not, gt_iff_lt, ge_iff_le] at h2
   exact absurd h2 hno
  ·skip
   try simp only [hasB, isSizeB, Bool.not_eq_true', Bool.not_eq_false', bne_iff_ne, ne_eq, bne_eq_false_iff_eq, beq_iff_eq, beq_eq_false_iff_ne, decide_eq_true_eq, decide_eq_false_iff_not, gt_iff_lt, ge_iff_le] at h2
   refine At.skipC ?_
   refine At.thenN ?_
   refine tR ?_
   refine tM rfl rfl ?_
   refine tM rfl rfl ?_
   refine At.val (Val.nilCheck rfl) rfl rfl rfl ?_
   refine At.val (Val.field 3 rfl fo_134_3 rfl) rfl rfl rfl ?_
   refine At.store (i := 0) Try.sizeOf3 rfl rfl rfl rfl (by first | decide | simp) ?_
   simp only [sc0, scS]
   refine tE ?_
   refine tR ?_
   refine tA rfl rfl ?_
   refine tE ?_
   refine At.retC ?_
   refine At.ret1 (.inl rfl) rfl rfl rfl (fun w hw => ?_)
   exact ⟨γ, rfl, toRDev1 hQ (armR_good hg hm) hw (by first | rfl | (congr 1; simp [stepR, fenceR, armR, *]; try omega)) rfl rfl⟩

theorem rarm_neg (p : Nat) (γ : Rg) (ρ : Rs) (m : Int) (w : World) (hm : m < 0) (hd : (RDev p γ ρ).holds w) :
    Upd Try.prog 93 [.pointer (some ⟨p, 0, none⟩), .int .i64 m] (RDev p γ ρ) (.int .i64 14) (RDev p γ ρ) w := by
 refine enterR hd Try.func93 rfl Try.ntmps93 rfl ?_
 unfold rdevL
 obtain ⟨hQ, hg⟩ := RDev.facts hd
 have hln := hg.len
 have hps := hg.pos
 have hnw := hg.now
 have h8 := first8_of hQ hg
 have hQl : γ.Q.length = ρ.ls.length := by rw [← hQ, List.length_map]
 simp only [envOf]
 refine tR ?_
 refine tA rfl rfl ?_
 refine tE ?_
 refine At.seq ?_
 refine tR ?_
 refine tM rfl rfl ?_
 refine At.val (Val.bin rfl rfl rfl) rfl rfl rfl ?_
 refine tE ?_
 refine At.cond rfl (fun h1 => ?_) (fun h1 => ?_)
 ·skip
  try simp only [hasB, isSizeB, Bool.not_eq_true', Bool.not_eq_false', bne_iff_ne, ne_eq, bne_eq_false_iff_eq, beq_iff_eq, beq_eq_false_iff_ne, decide_eq_true_eq, decide_eq_false_iff_not, gt_iff_lt, ge_iff_le] at h1
  refine tR ?_
  refine tA rfl rfl ?_
  refine tE ?_
  refine At.retC ?_
  refine At.thenR ?_
  refine At.ret1 (.inl rfl) rfl rfl rfl (fun w hw => ?_)
  exact ⟨rfl, retR (F := []) hw⟩
 ·skip
  try simp only [hasB, isSizeB, Bool.not_eq_true', Bool.not_eq_false', bne_iff_ne, ne_eq, bne_eq_false_iff_eq, beq_iff_eq, beq_eq_false_iff_ne, decide_eq_true_eq, decide_eq_false_iff_not, gt_iff_lt, ge_iff_le] at h1
  omega

theorem rarm_dead (p : Nat) (γ : Rg) (ρ : Rs) (m : Int) (w : World) (hm : 0 ≤ m) (hno : ρ.left = 0) (hd : (RDev p γ ρ).holds w) :
    Upd Try.prog 93 [.pointer (some ⟨p, 0, none⟩), .int .i64 m] (RDev p γ ρ) (.int .i64 13) (RDev p γ ρ) w := by
 refine enterR hd Try.func93 rfl Try.ntmps93 rfl ?_
 unfold rdevL
 obtain ⟨hQ, hg⟩ := RDev.facts hd
 have hln := hg.len
 have hps := hg.pos
 have hnw := hg.now
 have h8 := first8_of hQ hg
 have hQl : γ.Q.length = ρ.ls.length := by rw [← hQ, List.length_map]
 simp only [envOf]
 refine tR ?_
 refine tA rfl rfl ?_
 refine tE ?_
 refine At.seq ?_
 refine tR ?_
 refine tM rfl rfl ?_
 refine At.val (Val.bin rfl rfl rfl) rfl rfl rfl ?_
 refine tE ?_
 refine At.cond rfl (fun h1 => ?_) (fun h1 => ?_)
 ·skip
  try simp only [hasB, isSizeB, Bool.not_eq_true', Bool.not_eq_false', bne_iff_ne, ne_eq, bne_eq_false_iff_eq, beq_iff_eq, beq_eq_false_iff_ne, decide_eq_true_eq, decide_eq_false_iff_not, gt_iff_lt, ge_iff_le] at h1
  omega
 ·skip
  try simp only [hasB, isSizeB, Bool.not_eq_true', Bool.not_eq_false', bne_iff_ne, ne_eq, bne_eq_false_iff_eq, beq_iff_eq, beq_eq_false_iff_ne, decide_eq_true_eq, decide_eq_false_iff_not, gt_iff_lt, ge_iff_le] at h1
  refine At.skipC ?_
  refine At.thenN ?_
  refine At.seq ?_
  refine tR ?_
  refine tM rfl rfl ?_
  refine At.val (Val.nilCheck rfl) rfl rfl rfl ?_
  refine At.val (Val.field 3 rfl fo_134_3 rfl) rfl rfl rfl ?_
  refine At.val (Val.load (i := 0) Try.isAgg3 rfl rfl rfl) rfl rfl rfl ?_
  refine At.val (Val.bin rfl rfl rfl) rfl rfl rfl ?_
  refine tE ?_
  refine At.cond rfl (fun h2 => ?_) (fun h2 => ?_)
  ·skip
   try simp only [hasB, isSizeB, Bool.not_eq_true', Bool.not_eq_false', bne_iff_ne, ne_eq, bne_eq_false_iff_eq, beq_iff_eq, beq_eq_false_iff_ne, decide_eq_true_eq, decide_eq_false_iff_not, gt_iff_lt, ge_iff_le] at h2
   refine tR ?_
   refine tA rfl rfl ?_
   refine tE ?_
   refine At.retC ?_
   refine At.thenR ?_
   refine At.ret1 (.inl rfl) rfl rfl rfl (fun w hw => ?_)
   exact ⟨rfl, retR (F := []) hw⟩
  ·skip
   try simp only [hasB, isSizeB, Bool.not_eq_true', Bool.not_eq_false', bne_iff_ne, ne_eq, bne_eq_false_iff_eq, beq_iff_eq, beq_eq_false_iff_ne, decide_eq_true_eq, decide_eq_false_iff_not, gt_iff_lt, ge_iff_le] at h2
   exact absurd hno h2

end Go.Proofs.Ytkpbpeajkfgfiaa
