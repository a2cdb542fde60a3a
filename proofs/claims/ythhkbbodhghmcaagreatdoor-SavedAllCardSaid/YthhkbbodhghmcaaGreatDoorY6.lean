/- Parts of the proof, joined: see the law's text. -/
import Derived.Test.YthhkbbodhghmcaaGreatDoorY5
import Derived.Test.YthhkbbodhghmcaaGreatDoorY4
import Derived.Test.YthhkbbodhghmcaaGreatDoorY3
set_option linter.unusedVariables false
set_option linter.unusedSimpArgs false
namespace Go.Proofs.YthhkbbodhghmcaaGreatDoor
open Go Go.Wk
theorem At.callY {P : Program} {Γ : Ctx} {E : Env} {H : List Res} {ops : Array Oper} {Q : Exit → Act → World → Prop} {rest : List Oper} {d : Nat} {ty : TypeId} {pos : String} {after : Array Edge} (i : Nat) {β : Type} {r : Res} {r' : β → Res} {v : β → Value} {I : β → Prop} {f : FuncId} {l : List Operand} {vs : List Value} {at_ : Array TypeId} (hi : H[i]? = some r)
    (h : ∀ w, Rep Γ.w0 Γ.S H w → r.holds w → Calls P f vs.toArray w fun e w' => ∃ y : β, e = .returned (v y) ∧ I y ∧ Rep w (feet [r]) [r' y] w') (hc : ∀ args w, (callFunc f args).run P w = .ok (.enter f args) w) (hv : evs E l = some vs) (hn : Nat.blt d Γ.n = true)
    (c : ∀ y, I y → At Γ ((d, v y) :: E) (H.set i (r' y)) (wpList P ops Q rest)) :
    At Γ E H (wpList P ops Q ({ dst := some d, op := .call { callee := .value (.func f), args := l.toArray, argTypes := at_ }, type := ty, pos, after, guard := none } :: rest)) :=
  At.call hc hv hn fun w hw => (h w hw (hw.all _ (List.mem_of_getElem? hi))).mono fun e w' ⟨y, he, hI, hr⟩ => ⟨v y, _, he, Rep.frame1 (X := []) hi hw hr, c y hI⟩
theorem copySp_n (v : Value) (L : List (Int × Int)) (w : World) (hv : RdS w v L) (hlen : L.length ≤ 8796093022144) :
    NewRow Tryz.prog 16 [v] 100 2 L.length (prS L) w := by
 refine enter (feet []) [] Tryz.func16 rfl Tryz.ntmps16 rfl ⟨by simp, by simp, by simp, Mod.refl _ _⟩ ?_
 simp only [envOf]
 refine tR ?_
 refine tA rfl rfl ?_
 refine tE ?_
 refine tR ?_
 refine tA rfl rfl ?_
 refine tE ?_
 refine tR ?_
 refine tM rfl rfl ?_
 refine tM rfl rfl ?_
 refine At.rowNilS 100 ?_
 refine At.appendRdS (i := 0) (by_ := 16) Tryz.underlying35 info_100 rfl rfl rfl rfl rfl rfl rfl hv (fun _ _ _ _ _ _ _ h => by simp [feet] at h) (by simp only [List.length_nil]; omega) (by simp only [List.length_nil]; omega) rfl (fun v1 => ?_)
 simp only [sc0, scS]
 refine tA rfl rfl ?_
 refine tE ?_
 refine tR ?_
 refine tM rfl rfl ?_
 refine tA rfl rfl ?_
 refine tE ?_
 refine At.retC ?_
 refine At.ret1 (.inl rfl) rfl rfl rfl (fun w hw => ?_)
 exact ⟨_, rfl, hw⟩
theorem sameSpL_p (v u : Value) (L M : List (Int × Int)) (w : World) (hv : RdS w v L) (hu : RdS w u M) (hl : L.length ≤ 8796093022144) (hm : M.length ≤ 8796093022144) :
    PureC Tryz.prog 19 [v, u] (.bool (decide (L = M))) w := by
 refine enter0 Tryz.func19 rfl Tryz.ntmps19 rfl ?_
 simp only [envOf]
 refine tR ?_
 refine tA rfl rfl ?_
 refine tE ?_
 refine At.seq ?_
 refine tR ?_
 refine tM rfl rfl ?_
 refine At.val (Val.lenRd hv Tryz.underlying35 rfl) rfl rfl rfl ?_
 refine tM rfl rfl ?_
 refine At.val (Val.lenRd hu Tryz.underlying35 rfl) rfl rfl rfl ?_
 refine At.val (Val.bin rfl rfl rfl) rfl rfl rfl ?_
 refine tE ?_
 refine At.cond rfl (fun h1 => ?_) (fun h1 => ?_)
 ·skip
  try simp only [hasB, isSizeB, Bool.not_eq_true', Bool.not_eq_false', bne_iff_ne, ne_eq, bne_eq_false_iff_eq, beq_iff_eq, beq_eq_false_iff_ne, decide_eq_true_eq, decide_eq_false_iff_not, gt_iff_lt, ge_iff_le] at h1
  refine tR ?_
  refine tA rfl rfl ?_
  refine tE ?_
  refine At.retC ?_
  refine At.thenR ?_
  refine At.ret1 (.inl rfl) rfl rfl rfl (fun w hw => ?_)
  exact ⟨retB (decide_eq_false (fun e => ‹¬ (L.length : Int) = M.length› (by rw [e]))).symm, hw.mod⟩
 ·skip
  try simp only [hasB, isSizeB, Bool.not_eq_true', Bool.not_eq_false', bne_iff_ne, ne_eq, bne_eq_false_iff_eq, beq_iff_eq, beq_eq_false_iff_ne, decide_eq_true_eq, decide_eq_false_iff_not, gt_iff_lt, ge_iff_le] at h1
  have hn : L.length = M.length := by omega
  refine At.skipC ?_
  refine At.thenN ?_
  refine At.seq ?_
  refine tR ?_
  refine tA rfl rfl ?_
  refine tE ?_
  refine At.block ?_
  skip
  refine At.loop (σ := Nat) (fun k => k ≤ L.length ∧ L.take k = M.take k) (fun k => [(0, v), (1, u), (5, .int .i64 (k : Int))]) (fun k => []) (fun k => L.length - k) 0 ⟨Nat.zero_le _, rfl⟩ (Sub.cons rfl (Sub.cons rfl (Sub.cons rfl Sub.nil))) (List.Perm.refl _) ?_
  intro k hs
  refine At.seq ?_
  refine tR ?_
  refine tM rfl rfl ?_
  refine tM rfl rfl ?_
  refine At.val (Val.lenRd hv Tryz.underlying35 rfl) rfl rfl rfl ?_
  refine At.val (Val.bin rfl rfl rfl) rfl rfl rfl ?_
  refine tE ?_
  refine At.cond rfl (fun h2 => ?_) (fun h2 => ?_)
  ·skip
   try simp only [hasB, isSizeB, Bool.not_eq_true', Bool.not_eq_false', bne_iff_ne, ne_eq, bne_eq_false_iff_eq, beq_iff_eq, beq_eq_false_iff_ne, decide_eq_true_eq, decide_eq_false_iff_not, gt_iff_lt, ge_iff_le] at h2
   refine At.skipC ?_
   refine At.thenN ?_
   refine At.seq ?_
   refine At.block ?_
   refine At.seq ?_
   refine At.quiet rfl (by decide +kernel) ?_
   refine qM rfl rfl ?_
   refine qM rfl rfl ?_
   refine QAt.idxS hv Tryz.underlying35 Tryz.sizeOf100 rfl rfl (by omega) (by omega) rfl rfl (fun b3 o4 q5 hq6 hc7 hd8 => ?_)
   refine QAt.val (Val.loadSpan Tryz.isAgg100 Tryz.sizeOf100 rfl hc7 hd8 (fun h => h)) rfl rfl rfl ?_
   refine qM rfl rfl ?_
   refine qM rfl rfl ?_
   refine QAt.idxS hu Tryz.underlying35 Tryz.sizeOf100 rfl rfl (by omega) (by omega) rfl rfl (fun b9 o10 q11 hq12 hc13 hd14 => ?_)
   refine QAt.val (Val.loadSpan Tryz.isAgg100 Tryz.sizeOf100 rfl hc13 hd14 (fun h => h)) rfl rfl rfl ?_
   have hqa : L[k]? = some q5 := by have h1 := hq6; rwa [Int.toNat_natCast] at h1
   have hqb : M[k]? = some q11 := by have h1 := hq12; rwa [Int.toNat_natCast] at h1
   refine QAt.val (Val.neAgg Tryz.eqGuardType100 (fun w => eq_100 _ _ _ _ w) rfl rfl) rfl rfl rfl ?_
   rw [ne_span]
   refine QAt.fin ?_
   refine At.thenN ?_
   refine At.cond rfl (fun h15 => ?_) (fun h15 => ?_)
   ·skip
    try simp only [hasB, isSizeB, Bool.not_eq_true', Bool.not_eq_false', bne_iff_ne, ne_eq, bne_eq_false_iff_eq, beq_iff_eq, beq_eq_false_iff_ne, decide_eq_true_eq, decide_eq_false_iff_not, gt_iff_lt, ge_iff_le] at h15
    have hne := h15
    refine tR ?_
    refine tA rfl rfl ?_
    refine tE ?_
    refine At.retC ?_
    refine At.blkR ?_
    refine At.thenR ?_
    refine At.thenR ?_
    refine At.blkR ?_
    refine At.thenR ?_
    refine At.ret1 (.inl rfl) rfl rfl rfl (fun w hw => ?_)
    exact ⟨retB (decide_eq_false (fun e => by subst e; rw [hqa] at hqb; exact hne (Option.some.inj hqb))).symm, hw.mod⟩
   ·skip
    try simp only [hasB, isSizeB, Bool.not_eq_true', Bool.not_eq_false', bne_iff_ne, ne_eq, bne_eq_false_iff_eq, beq_iff_eq, beq_eq_false_iff_ne, decide_eq_true_eq, decide_eq_false_iff_not, gt_iff_lt, ge_iff_le] at h15
    have heq := Classical.not_not.1 h15
    refine At.skipC ?_
    refine At.blkN ?_
    refine At.thenN ?_
    refine At.region ?_
    refine tM rfl rfl ?_
    first | refine At.val (Val.addI rfl rfl (by omega) (by omega)) rfl rfl rfl ?_ | refine At.val (Val.bin rfl rfl rfl) rfl rfl rfl ?_
    refine tA rfl rfl ?_
    refine tE ?_
    exact At.again (k + 1) ⟨by omega, by rw [List.take_add_one, List.take_add_one, hs.2, hqa, hqb, heq]⟩ (by omega) (Sub.cons rfl (Sub.cons rfl (Sub.cons (congrArg (fun z => some (Value.int IntKind.i64 z)) (by omega)) Sub.nil))) (List.Perm.refl _)
  ·skip
   try simp only [hasB, isSizeB, Bool.not_eq_true', Bool.not_eq_false', bne_iff_ne, ne_eq, bne_eq_false_iff_eq, beq_iff_eq, beq_eq_false_iff_ne, decide_eq_true_eq, decide_eq_false_iff_not, gt_iff_lt, ge_iff_le] at h2
   refine At.exitC ?_
   refine At.thenX ?_
   refine At.thenX ?_
   refine At.blkX ?_
   refine At.thenN ?_
   refine tR ?_
   refine tA rfl rfl ?_
   refine tE ?_
   refine At.retC ?_
   refine At.ret1 (.inl rfl) rfl rfl rfl (fun w hw => ?_)
   exact ⟨retB (decide_eq_true (by have h1 := hs.2; rw [List.take_of_length_le (by omega), List.take_of_length_le (by omega)] at h1; exact h1)).symm, hw.mod⟩
theorem sameBytes_p (v u : Value) (l m : List UInt8) (w : World) (hv : RdB w v l) (hu : RdB w u m) (hl : l.length ≤ 140737488355328) (hm : m.length ≤ 140737488355328) :
    PureC Tryz.prog 24 [v, u] (.bool (decide (l = m))) w := by
 refine enter0 Tryz.func24 rfl Tryz.ntmps24 rfl ?_
 simp only [envOf]
 refine tR ?_
 refine tA rfl rfl ?_
 refine tE ?_
 refine At.seq ?_
 refine tR ?_
 refine tM rfl rfl ?_
 refine At.val (Val.lenRd hv Tryz.underlying59 rfl) rfl rfl rfl ?_
 refine tM rfl rfl ?_
 refine At.val (Val.lenRd hu Tryz.underlying59 rfl) rfl rfl rfl ?_
 refine At.val (Val.bin rfl rfl rfl) rfl rfl rfl ?_
 refine tE ?_
 refine At.cond rfl (fun h1 => ?_) (fun h1 => ?_)
 ·skip
  try simp only [hasB, isSizeB, Bool.not_eq_true', Bool.not_eq_false', bne_iff_ne, ne_eq, bne_eq_false_iff_eq, beq_iff_eq, beq_eq_false_iff_ne, decide_eq_true_eq, decide_eq_false_iff_not, gt_iff_lt, ge_iff_le] at h1
  refine tR ?_
  refine tA rfl rfl ?_
  refine tE ?_
  refine At.retC ?_
  refine At.thenR ?_
  refine At.ret1 (.inl rfl) rfl rfl rfl (fun w hw => ?_)
  exact ⟨congrArg (fun b => Ending.returned (.bool b)) (decide_eq_false (fun e => ‹¬ (l.length : Int) = m.length› (by rw [e]))).symm, hw.mod⟩
 ·skip
  try simp only [hasB, isSizeB, Bool.not_eq_true', Bool.not_eq_false', bne_iff_ne, ne_eq, bne_eq_false_iff_eq, beq_iff_eq, beq_eq_false_iff_ne, decide_eq_true_eq, decide_eq_false_iff_not, gt_iff_lt, ge_iff_le] at h1
  have hn : l.length = m.length := by omega
  refine At.skipC ?_
  refine At.thenN ?_
  refine At.seq ?_
  refine tR ?_
  refine tA rfl rfl ?_
  refine tE ?_
  refine At.block ?_
  skip
  refine At.loop (σ := Nat) (fun k => k ≤ l.length ∧ l.take k = m.take k) (fun k => [(0, v), (1, u), (5, .int .i64 (k : Int))]) (fun k => []) (fun k => l.length - k) 0 ⟨Nat.zero_le _, rfl⟩ (Sub.cons rfl (Sub.cons rfl (Sub.cons rfl Sub.nil))) (List.Perm.refl _) ?_
  intro k hs
  refine At.seq ?_
  refine tR ?_
  refine tM rfl rfl ?_
  refine tM rfl rfl ?_
  refine At.val (Val.lenRd hv Tryz.underlying59 rfl) rfl rfl rfl ?_
  refine At.val (Val.bin rfl rfl rfl) rfl rfl rfl ?_
  refine tE ?_
  refine At.cond rfl (fun h2 => ?_) (fun h2 => ?_)
  ·skip
   try simp only [hasB, isSizeB, Bool.not_eq_true', Bool.not_eq_false', bne_iff_ne, ne_eq, bne_eq_false_iff_eq, beq_iff_eq, beq_eq_false_iff_ne, decide_eq_true_eq, decide_eq_false_iff_not, gt_iff_lt, ge_iff_le] at h2
   refine At.skipC ?_
   refine At.thenN ?_
   refine At.seq ?_
   refine At.block ?_
   refine At.seq ?_
   refine At.quiet rfl (by decide +kernel) ?_
   refine qM rfl rfl ?_
   refine qM rfl rfl ?_
   refine QAt.idxB hv Tryz.underlying59 Tryz.sizeOf5 rfl rfl (by omega) (by omega) rfl rfl (fun b3 o4 q5 hq6 hl7 hc8 => ?_)
   refine QAt.val (Val.loadOld Tryz.isAgg5 rfl hc8 (fun h => h)) rfl rfl rfl ?_
   refine qM rfl rfl ?_
   refine qM rfl rfl ?_
   refine QAt.idxB hu Tryz.underlying59 Tryz.sizeOf5 rfl rfl (by omega) (by omega) rfl rfl (fun b9 o10 q11 hq12 hl13 hc14 => ?_)
   refine QAt.val (Val.loadOld Tryz.isAgg5 rfl hc14 (fun h => h)) rfl rfl rfl ?_
   refine QAt.val (Val.bin rfl rfl rfl) rfl rfl rfl ?_
   refine QAt.fin ?_
   refine At.thenN ?_
   refine At.cond rfl (fun h15 => ?_) (fun h15 => ?_)
   ·skip
    try simp only [hasB, isSizeB, Bool.not_eq_true', Bool.not_eq_false', bne_iff_ne, ne_eq, bne_eq_false_iff_eq, beq_iff_eq, beq_eq_false_iff_ne, decide_eq_true_eq, decide_eq_false_iff_not, gt_iff_lt, ge_iff_le] at h15
    refine tR ?_
    refine tA rfl rfl ?_
    refine tE ?_
    refine At.retC ?_
    refine At.blkR ?_
    refine At.thenR ?_
    refine At.thenR ?_
    refine At.blkR ?_
    refine At.thenR ?_
    refine At.ret1 (.inl rfl) rfl rfl rfl (fun w hw => ?_)
    exact ⟨congrArg (fun b => Ending.returned (.bool b)) (decide_eq_false (fun e => by subst e; simp_all)).symm, hw.mod⟩
   ·skip
    try simp only [hasB, isSizeB, Bool.not_eq_true', Bool.not_eq_false', bne_iff_ne, ne_eq, bne_eq_false_iff_eq, beq_iff_eq, beq_eq_false_iff_ne, decide_eq_true_eq, decide_eq_false_iff_not, gt_iff_lt, ge_iff_le] at h15
    refine At.skipC ?_
    refine At.blkN ?_
    refine At.thenN ?_
    refine At.region ?_
    refine tM rfl rfl ?_
    first | refine At.val (Val.addI rfl rfl (by omega) (by omega)) rfl rfl rfl ?_ | refine At.val (Val.bin rfl rfl rfl) rfl rfl rfl ?_
    refine tA rfl rfl ?_
    refine tE ?_
    exact At.again (k + 1) ⟨by omega, by rw [List.take_add_one, List.take_add_one, hs.2, show l[k]? = m[k]? from by simp only [Int.toNat_natCast] at *; simp_all; exact UInt8.toNat_inj.1 (by omega)]⟩ (by omega) (Sub.cons rfl (Sub.cons rfl (Sub.cons (congrArg (fun z => some (Value.int IntKind.i64 z)) (by omega)) Sub.nil))) (List.Perm.refl _)
  ·skip
   try simp only [hasB, isSizeB, Bool.not_eq_true', Bool.not_eq_false', bne_iff_ne, ne_eq, bne_eq_false_iff_eq, beq_iff_eq, beq_eq_false_iff_ne, decide_eq_true_eq, decide_eq_false_iff_not, gt_iff_lt, ge_iff_le] at h2
   refine At.exitC ?_
   refine At.thenX ?_
   refine At.thenX ?_
   refine At.blkX ?_
   refine At.thenN ?_
   refine tR ?_
   refine tA rfl rfl ?_
   refine tE ?_
   refine At.retC ?_
   refine At.ret1 (.inl rfl) rfl rfl rfl (fun w hw => ?_)
   exact ⟨congrArg (fun b => Ending.returned (.bool b)) (decide_eq_true (by have h1 := hs.2; rw [List.take_of_length_le (by omega), List.take_of_length_le (by omega)] at h1; exact h1)).symm, hw.mod⟩
theorem sdev_k (p q : Nat) (γ : Gh) (δ : Rg) (σ : Ds) (ρ : Rs) (w : World) (hsim : Sim σ ρ) (hd : (star [Dev p γ σ, RDev q δ ρ]).holds w) :
    Upd Tryz.prog 15 [.pointer (some ⟨p, 0, none⟩), .pointer (some ⟨q, 0, none⟩)] (star [Dev p γ σ, RDev q δ ρ]) (.bool true) (star [Dev p γ σ, RDev q δ ρ]) w := by
 refine enter (feet [star [Dev p γ σ, RDev q δ ρ]]) [Dev p γ σ, RDev q δ ρ] Tryz.func15 rfl Tryz.ntmps15 rfl (Rep.of_star (r := star [Dev p γ σ, RDev q δ ρ]) hd) ?_
 have hgd := Dev.good (hd.2 (Dev p γ σ) (by simp))
 have hwl := hgd.len
 have hsl := hsim.len
 simp only [envOf]
 refine tR ?_
 refine tA rfl rfl ?_
 refine tE ?_
 refine tR ?_
 refine tM rfl rfl ?_
 refine At.callDB 0 rfl (fun w hw hr => doubts_k _ _ _ w hr) Tryz.call40 rfl rfl (fun v1 Q2 hQ3 => ?_)
 refine tA rfl rfl ?_
 refine tE ?_
 refine tR ?_
 refine tM rfl rfl ?_
 refine At.callDB 2 rfl (fun w hw hr => rdoubts_s _ _ _ σ w hsim hwl hr) Tryz.call41 rfl rfl (fun v4 Q5 hQ6 => ?_)
 refine tA rfl rfl ?_
 refine At.nil ?_
 have hQQ : Q2.map Prod.fst = Q5.map Prod.fst := by rw [hQ3, hQ6]
 have hQl : Q2.length = Q5.length := by have := congrArg List.length hQQ; rwa [List.length_map, List.length_map] at this
 have hQb : Q2.length ≤ 65536 := by have h1 := congrArg List.length hQ3; rw [List.length_map, dts_length] at h1; have h2 := dk_le σ.ws; omega
 refine At.thenN ?_
 refine At.seq ?_
 refine tR ?_
 refine tM rfl rfl ?_
 refine At.val (Val.lenDb (i := 1) rfl Tryz.underlying80 rfl) rfl rfl rfl ?_
 refine tM rfl rfl ?_
 refine At.val (Val.lenDb (i := 0) rfl Tryz.underlying80 rfl) rfl rfl rfl ?_
 refine At.val (Val.bin rfl rfl rfl) rfl rfl rfl ?_
 refine tM rfl rfl ?_
 refine At.split (t := 18) rfl (fun h7 => ?_) (fun h7 => ?_)
 ·skip
  try simp only [hasB, isSizeB, Bool.not_eq_true', Bool.not_eq_false', bne_iff_ne, ne_eq, bne_eq_false_iff_eq, beq_iff_eq, beq_eq_false_iff_ne, decide_eq_true_eq, decide_eq_false_iff_not, gt_iff_lt, ge_iff_le] at h7
  omega
 ·skip
  try simp only [hasB, isSizeB, Bool.not_eq_true', Bool.not_eq_false', bne_iff_ne, ne_eq, bne_eq_false_iff_eq, beq_iff_eq, beq_eq_false_iff_ne, decide_eq_true_eq, decide_eq_false_iff_not, gt_iff_lt, ge_iff_le] at h7
  refine At.yes rfl rfl ?_
  refine tM rfl rfl ?_
  refine At.yes rfl rfl ?_
  refine At.callK 2 rfl (fun w hw hr => steps_k _ _ _ w hr) Tryz.call42 rfl rfl ?_
  refine At.yes rfl rfl ?_
  refine tM rfl rfl ?_
  refine At.yes rfl rfl ?_
  refine At.callK 3 rfl (fun w hw hr => rsteps_k _ _ _ w hr) Tryz.call43 rfl rfl ?_
  refine At.yes rfl rfl ?_
  refine At.val (Val.bin rfl rfl rfl) rfl rfl rfl ?_
  refine At.val (Val.pickF rfl rfl) rfl rfl rfl ?_
  refine tM rfl rfl ?_
  refine At.split (t := 25) rfl (fun h8 => ?_) (fun h8 => ?_)
  ·skip
   try simp only [hasB, isSizeB, Bool.not_eq_true', Bool.not_eq_false', bne_iff_ne, ne_eq, bne_eq_false_iff_eq, beq_iff_eq, beq_eq_false_iff_ne, decide_eq_true_eq, decide_eq_false_iff_not, gt_iff_lt, ge_iff_le] at h8
   have h9 := hsim.now; omega
  ·skip
   try simp only [hasB, isSizeB, Bool.not_eq_true', Bool.not_eq_false', bne_iff_ne, ne_eq, bne_eq_false_iff_eq, beq_iff_eq, beq_eq_false_iff_ne, decide_eq_true_eq, decide_eq_false_iff_not, gt_iff_lt, ge_iff_le] at h8
   refine At.yes rfl rfl ?_
   refine tM rfl rfl ?_
   refine At.yes rfl rfl ?_
   refine At.callK 2 rfl (fun w hw hr => dead_k _ _ _ w hr) Tryz.call44 rfl rfl ?_
   refine At.yes rfl rfl ?_
   refine tM rfl rfl ?_
   refine At.yes rfl rfl ?_
   refine At.callK 3 rfl (fun w hw hr => rdead_k _ _ _ w hr) Tryz.call45 rfl rfl ?_
   refine At.yes rfl rfl ?_
   refine At.val (Val.neB Tryz.underlying4 rfl rfl) rfl rfl rfl ?_
   rw [show (!(deadB σ == (ρ.left == 0))) = false from by rw [hsim.dead, show (ρ.left == 0) = decide (ρ.left = 0) from rfl, beq_self_eq_true]; rfl]
   refine At.val (Val.pickF rfl rfl) rfl rfl rfl ?_
   refine tE ?_
   refine At.condF rfl ?_
   refine At.skipC ?_
   refine At.thenN ?_
   refine At.seq ?_
   refine tR ?_
   refine tA rfl rfl ?_
   refine tE ?_
   refine At.block ?_
   skip
   refine At.loop (σ := Nat) (fun k => k ≤ Q2.length) (fun k => [(0, .pointer (some ⟨p, 0, none⟩)), (1, .pointer (some ⟨q, 0, none⟩)), (5, v1), (6, v4), (7, .int .i64 (k : Int))]) (fun k => [dbtR v4 Q5, dbtR v1 Q2, Dev p γ (σ), RDev q δ (ρ)]) (fun k => Q2.length - k) 0 (Nat.zero_le _) (Sub.cons rfl (Sub.cons rfl (Sub.cons rfl (Sub.cons rfl (Sub.cons rfl Sub.nil))))) (List.Perm.refl _) ?_
   intro k hs
   refine At.seq ?_
   refine tR ?_
   refine tM rfl rfl ?_
   refine tM rfl rfl ?_
   refine At.val (Val.lenDb (i := 1) rfl Tryz.underlying80 rfl) rfl rfl rfl ?_
   refine At.val (Val.bin rfl rfl rfl) rfl rfl rfl ?_
   refine tE ?_
   refine At.cond rfl (fun h9 => ?_) (fun h9 => ?_)
   ·skip
    try simp only [hasB, isSizeB, Bool.not_eq_true', Bool.not_eq_false', bne_iff_ne, ne_eq, bne_eq_false_iff_eq, beq_iff_eq, beq_eq_false_iff_ne, decide_eq_true_eq, decide_eq_false_iff_not, gt_iff_lt, ge_iff_le] at h9
    have hkl : k < Q2.length := by omega
    obtain ⟨⟨⟨xa, xo, xn⟩, xs⟩, hx⟩ : ∃ x, Q2[k]? = some x := ⟨_, List.getElem?_eq_getElem hkl⟩
    obtain ⟨⟨yy, ys⟩, hy⟩ : ∃ y, Q5[k]? = some y := ⟨_, List.getElem?_eq_getElem (by omega)⟩
    obtain rfl : yy = (xa, xo, xn) := by have h1 := fst_at hQQ hx; have h2 := fst_at rfl hy; exact Option.some.inj (h2.symm.trans h1)
    have hxl : xn.length ≤ 1099511627776 := dts_bd hgd (fst_at hQ3 hx)
    refine At.skipC ?_
    refine At.thenN ?_
    refine At.seq ?_
    refine At.block ?_
    refine At.seq ?_
    refine At.seq ?_
    refine At.quiet rfl (by decide +kernel) ?_
    refine qM rfl rfl ?_
    refine qM rfl rfl ?_
    refine QAt.val (Val.indexDb (i := 1) (k * 3) (by omega) Tryz.underlying80 Tryz.sizeOf84 rfl rfl rfl (by omega) (by omega)) rfl rfl rfl ?_
    refine QAt.val (Val.field (k * 3 + 0) rfl fo_84_0 rfl) rfl rfl rfl ?_
    refine QAt.val (Val.loadDb (i := 1) 0 Tryz.isAgg3 rfl rfl rfl hx rfl) rfl rfl rfl ?_
    refine qM rfl rfl ?_
    refine qM rfl rfl ?_
    refine QAt.val (Val.indexDb (i := 0) (k * 3) (by omega) Tryz.underlying80 Tryz.sizeOf84 rfl rfl rfl (by omega) (by omega)) rfl rfl rfl ?_
    refine QAt.val (Val.field (k * 3 + 0) rfl fo_84_0 rfl) rfl rfl rfl ?_
    refine QAt.val (Val.loadDb (i := 0) 0 Tryz.isAgg3 rfl rfl rfl hy rfl) rfl rfl rfl ?_
    refine QAt.val (Val.bin rfl rfl rfl) rfl rfl rfl ?_
    rw [bne_self_eq_false]
    refine qM rfl rfl ?_
    refine QAt.yes rfl rfl ?_
    refine qM rfl rfl ?_
    refine QAt.yes rfl rfl ?_
    refine qM rfl rfl ?_
    refine QAt.yes rfl rfl ?_
    refine QAt.val (Val.indexDb (i := 1) (k * 3) (by omega) Tryz.underlying80 Tryz.sizeOf84 rfl rfl rfl (by omega) (by omega)) rfl rfl rfl ?_
    refine QAt.yes rfl rfl ?_
    refine QAt.val (Val.field (k * 3 + 1) rfl fo_84_1 rfl) rfl rfl rfl ?_
    refine QAt.yes rfl rfl ?_
    refine QAt.val (Val.loadDb (i := 1) 1 Tryz.isAgg32 rfl rfl rfl hx rfl) rfl rfl rfl ?_
    refine QAt.yes rfl rfl ?_
    refine qM rfl rfl ?_
    refine QAt.yes rfl rfl ?_
    refine qM rfl rfl ?_
    refine QAt.yes rfl rfl ?_
    refine QAt.val (Val.indexDb (i := 0) (k * 3) (by omega) Tryz.underlying80 Tryz.sizeOf84 rfl rfl rfl (by omega) (by omega)) rfl rfl rfl ?_
    refine QAt.yes rfl rfl ?_
    refine QAt.val (Val.field (k * 3 + 1) rfl fo_84_1 rfl) rfl rfl rfl ?_
    refine QAt.yes rfl rfl ?_
    refine QAt.val (Val.loadDb (i := 0) 1 Tryz.isAgg32 rfl rfl rfl hy rfl) rfl rfl rfl ?_
    refine QAt.yes rfl rfl ?_
    refine QAt.val (Val.bin rfl rfl rfl) rfl rfl rfl ?_
    rw [bne_self_eq_false]
    refine QAt.val (Val.pickF rfl rfl) rfl rfl rfl ?_
    refine qM rfl rfl ?_
    refine QAt.yes rfl rfl ?_
    refine qM rfl rfl ?_
    refine QAt.yes rfl rfl ?_
    refine qM rfl rfl ?_
    refine QAt.yes rfl rfl ?_
    refine QAt.val (Val.indexDb (i := 1) (k * 3) (by omega) Tryz.underlying80 Tryz.sizeOf84 rfl rfl rfl (by omega) (by omega)) rfl rfl rfl ?_
    refine QAt.yes rfl rfl ?_
    refine QAt.val (Val.field (k * 3 + 2) rfl fo_84_2 rfl) rfl rfl rfl ?_
    refine QAt.yes rfl rfl ?_
    refine QAt.val (Val.loadDb (i := 1) 2 Tryz.isAgg44 rfl rfl rfl hx rfl) rfl rfl rfl ?_
    refine QAt.yes rfl rfl ?_
    refine QAt.val (Val.lenNews (i := 1) rfl hx Tryz.underlying44 rfl) rfl rfl rfl ?_
    refine QAt.yes rfl rfl ?_
    refine qM rfl rfl ?_
    refine QAt.yes rfl rfl ?_
    refine qM rfl rfl ?_
    refine QAt.yes rfl rfl ?_
    refine QAt.val (Val.indexDb (i := 0) (k * 3) (by omega) Tryz.underlying80 Tryz.sizeOf84 rfl rfl rfl (by omega) (by omega)) rfl rfl rfl ?_
    refine QAt.yes rfl rfl ?_
    refine QAt.val (Val.field (k * 3 + 2) rfl fo_84_2 rfl) rfl rfl rfl ?_
    refine QAt.yes rfl rfl ?_
    refine QAt.val (Val.loadDb (i := 0) 2 Tryz.isAgg44 rfl rfl rfl hy rfl) rfl rfl rfl ?_
    refine QAt.yes rfl rfl ?_
    refine QAt.val (Val.lenNews (i := 0) rfl hy Tryz.underlying44 rfl) rfl rfl rfl ?_
    refine QAt.yes rfl rfl ?_
    refine QAt.val (Val.bin rfl rfl rfl) rfl rfl rfl ?_
    rw [bne_self_eq_false]
    refine QAt.val (Val.pickF rfl rfl) rfl rfl rfl ?_
    refine QAt.fin ?_
    refine At.thenN ?_
    refine At.condF rfl ?_
    refine At.skipC ?_
    refine At.thenN ?_
    refine tR ?_
    refine tA rfl rfl ?_
    refine tE ?_
    refine At.block ?_
    skip
    refine At.loop (σ := Nat) (fun j => j ≤ xn.length) (fun j => [(0, .pointer (some ⟨p, 0, none⟩)), (1, .pointer (some ⟨q, 0, none⟩)), (5, v1), (6, v4), (7, .int .i64 (k : Int)), (8, .int .i64 (j : Int))]) (fun j => [dbtR v4 Q5, dbtR v1 Q2, Dev p γ (σ), RDev q δ (ρ)]) (fun j => xn.length - j) 0 (Nat.zero_le _) (Sub.cons rfl (Sub.cons rfl (Sub.cons rfl (Sub.cons rfl (Sub.cons rfl (Sub.cons rfl Sub.nil)))))) (List.Perm.refl _) ?_
    intro j hj
    refine At.seq ?_
    refine tR ?_
    refine tM rfl rfl ?_
    refine tM rfl rfl ?_
    refine tM rfl rfl ?_
    refine At.val (Val.indexDb (i := 1) (k * 3) (by omega) Tryz.underlying80 Tryz.sizeOf84 rfl rfl rfl (by omega) (by omega)) rfl rfl rfl ?_
    refine At.val (Val.field (k * 3 + 2) rfl fo_84_2 rfl) rfl rfl rfl ?_
    refine At.val (Val.loadDb (i := 1) 2 Tryz.isAgg44 rfl rfl rfl hx rfl) rfl rfl rfl ?_
    refine At.val (Val.lenNews (i := 1) rfl hx Tryz.underlying44 rfl) rfl rfl rfl ?_
    refine At.val (Val.bin rfl rfl rfl) rfl rfl rfl ?_
    refine tE ?_
    refine At.cond rfl (fun h10 => ?_) (fun h10 => ?_)
    ·skip
     try simp only [hasB, isSizeB, Bool.not_eq_true', Bool.not_eq_false', bne_iff_ne, ne_eq, bne_eq_false_iff_eq, beq_iff_eq, beq_eq_false_iff_ne, decide_eq_true_eq, decide_eq_false_iff_not, gt_iff_lt, ge_iff_le] at h10
     obtain ⟨z, hz⟩ : ∃ z, xn[j]? = some z := ⟨_, List.getElem?_eq_getElem (by omega)⟩
     refine At.skipC ?_
     refine At.thenN ?_
     refine At.seq ?_
     refine At.block ?_
     refine At.seq ?_
     refine At.quiet rfl (by decide +kernel) ?_
     refine qM rfl rfl ?_
     refine qM rfl rfl ?_
     refine QAt.val (Val.indexDb (i := 1) (k * 3) (by omega) Tryz.underlying80 Tryz.sizeOf84 rfl rfl rfl (by omega) (by omega)) rfl rfl rfl ?_
     refine QAt.val (Val.field (k * 3 + 2) rfl fo_84_2 rfl) rfl rfl rfl ?_
     refine QAt.val (Val.loadDb (i := 1) 2 Tryz.isAgg44 rfl rfl rfl hx rfl) rfl rfl rfl ?_
     refine qM rfl rfl ?_
     refine QAt.val (Val.indexNews (i := 1) j (by omega) rfl hx Tryz.underlying44 Tryz.sizeOf32 rfl rfl (by omega) (show _ < ((xn.length : Nat) : Int) by omega)) rfl rfl rfl ?_
     refine QAt.val (Val.loadNewsD (i := 1) Tryz.isAgg32 rfl rfl hx hz) rfl rfl rfl ?_
     refine qM rfl rfl ?_
     refine qM rfl rfl ?_
     refine QAt.val (Val.indexDb (i := 0) (k * 3) (by omega) Tryz.underlying80 Tryz.sizeOf84 rfl rfl rfl (by omega) (by omega)) rfl rfl rfl ?_
     refine QAt.val (Val.field (k * 3 + 2) rfl fo_84_2 rfl) rfl rfl rfl ?_
     refine QAt.val (Val.loadDb (i := 0) 2 Tryz.isAgg44 rfl rfl rfl hy rfl) rfl rfl rfl ?_
     refine qM rfl rfl ?_
     refine QAt.val (Val.indexNews (i := 0) j (by omega) rfl hy Tryz.underlying44 Tryz.sizeOf32 rfl rfl (by omega) (show _ < ((xn.length : Nat) : Int) by omega)) rfl rfl rfl ?_
     refine QAt.val (Val.loadNewsD (i := 0) Tryz.isAgg32 rfl rfl hy hz) rfl rfl rfl ?_
     refine QAt.val (Val.bin rfl rfl rfl) rfl rfl rfl ?_
     rw [bne_self_eq_false]
     refine QAt.fin ?_
     refine At.thenN ?_
     refine At.condF rfl ?_
     refine At.skipC ?_
     refine At.blkN ?_
     refine At.thenN ?_
     refine At.region ?_
     refine tM rfl rfl ?_
     first | refine At.val (Val.addI rfl rfl (by omega) (by omega)) rfl rfl rfl ?_ | refine At.val (Val.bin rfl rfl rfl) rfl rfl rfl ?_
     refine tA rfl rfl ?_
     refine tE ?_
     exact At.again (j + 1) (show j + 1 ≤ _ by omega) (by omega) (Sub.cons rfl (Sub.cons rfl (Sub.cons rfl (Sub.cons rfl (Sub.cons rfl (Sub.cons (congrArg (fun z => some (Value.int IntKind.i64 z)) (by omega)) Sub.nil)))))) (List.Perm.refl _)
    ·skip
     try simp only [hasB, isSizeB, Bool.not_eq_true', Bool.not_eq_false', bne_iff_ne, ne_eq, bne_eq_false_iff_eq, beq_iff_eq, beq_eq_false_iff_ne, decide_eq_true_eq, decide_eq_false_iff_not, gt_iff_lt, ge_iff_le] at h10
     refine At.exitC ?_
     refine At.thenX ?_
     refine At.thenX ?_
     refine At.blkX ?_
     refine At.blkN ?_
     refine At.thenN ?_
     refine At.region ?_
     refine tM rfl rfl ?_
     first | refine At.val (Val.addI rfl rfl (by omega) (by omega)) rfl rfl rfl ?_ | refine At.val (Val.bin rfl rfl rfl) rfl rfl rfl ?_
     refine tA rfl rfl ?_
     refine tE ?_
     exact At.again (k + 1) (show k + 1 ≤ _ by omega) (by omega) (Sub.cons rfl (Sub.cons rfl (Sub.cons rfl (Sub.cons rfl (Sub.cons (congrArg (fun z => some (Value.int IntKind.i64 z)) (by omega)) Sub.nil))))) (List.Perm.refl _)
   ·skip
    try simp only [hasB, isSizeB, Bool.not_eq_true', Bool.not_eq_false', bne_iff_ne, ne_eq, bne_eq_false_iff_eq, beq_iff_eq, beq_eq_false_iff_ne, decide_eq_true_eq, decide_eq_false_iff_not, gt_iff_lt, ge_iff_le] at h9
    refine At.exitC ?_
    refine At.thenX ?_
    refine At.thenX ?_
    refine At.blkX ?_
    refine At.thenN ?_
    refine tR ?_
    refine tM rfl rfl ?_
    refine At.callRK 2 rfl (fun w hw hr => view_k _ _ _ w hr) Tryz.call46 rfl rfl (fun v11 => ?_)
    refine tM rfl rfl ?_
    refine At.callRK 4 rfl (fun w hw hr => rview_s _ _ _ σ w hsim hwl hr) Tryz.call20 rfl rfl (fun v12 => ?_)
    refine At.callP (fun w hw => sameBytes_p _ _ _ _ w (row_rd (hw.row (i := 1) rfl) (by decide)) (row_rd (hw.row (i := 0) rfl) (by decide)) (by rw [wbytes_length, viewWs, List.length_map]; omega) (by rw [wbytes_length, viewWs, List.length_map]; omega)) Tryz.call24 rfl rfl ?_
    rw [decide_eq_true rfl]
    ·skip
     refine tA rfl rfl ?_
     refine tE ?_
     refine At.retC ?_
     refine At.ret1 (.inl rfl) rfl rfl rfl (fun w hw => ?_)
     exact ⟨rfl, Rep.shutS (F := []) (hw.drop (List.Sublist.refl _ |>.cons _ |>.cons _ |>.cons _ |>.cons _))⟩
end Go.Proofs.YthhkbbodhghmcaaGreatDoor
set_option linter.unusedVariables false
set_option linter.unusedSimpArgs false
namespace Go.Proofs.YthhkbbodhghmcaaGreatDoor
open Go Go.Wk
theorem bld_64_0_2 (p i c d : Int) (A : Option Addr) (n k : Nat) (w : World) : (Instr.build 64 #[(0, .agg #[.int .i64 p, .int .i64 i, .int .i64 c, .int .i64 d]), (2, .slice A n k)]).run Tryz.prog w = .ok (.agg #[.int .i64 p, .int .i64 i, .int .i64 c, .int .i64 d, .slice none 0 0, .slice A n k]) w := by kernel_rfl
structure Pq where
  p : Nat
  γ : Gh
  σ : Ds
  q : Nat
  δ : Rg
  ρ : Rs
abbrev pqR (y : Pq) : Res := star [Dev y.p y.γ y.σ, RDev y.q y.δ y.ρ]
def PqOk (σ : Ds) (k : Nat) (y : Pq) : Prop := Sim y.σ y.ρ ∧ y.σ.ws.length = σ.ws.length ∧ y.σ.steps ≤ σ.steps + k
def PairY (P : Program) (f : FuncId) (vs : List Value) (r : Res) (v : Pq → Value) (I : Pq → Prop) (w : World) : Prop := Calls P f vs.toArray w fun e w' => ∃ y : Pq, e = .returned (v y) ∧ I y ∧ Rep w (feet [r]) [pqR y] w'
theorem cleanA0_rest {σ : Ds} (h : 16 < σ.ws.length) : (actsE σ (cleanA 0)).2.ws.length = σ.ws.length ∧ (actsE σ (cleanA 0)).2.steps ≤ σ.steps + 3 := by
  obtain ⟨h1, h2, _⟩ := actsE_rest (cleanA 0) σ (cleanA_ok 0 h)
  exact ⟨h1, h2⟩
theorem loadD_len' (l : List UInt8) : (loadD l).ws.length = l.length / 8 := by unfold loadD loadWs; simp
theorem saves_k (p q : Nat) (γ : Gh) (δ : Rg) (σ : Ds) (ρ : Rs) (kd ad n sp si sc sd : Int) (x : BitVec 64) (vS vL : Value) (L : List (Int × Int)) (cs : List Int) (w : World) (hsim : Sim σ ρ) (ht : Tab w) (hf : ¬ feet [star [Dev p γ σ, RDev q δ ρ]] 0) (hvS : RdS w vS L) (hoS : Off vS (prS L) (feet [star [Dev p γ σ, RDev q δ ρ]])) (hL : L.length ≤ 8796093022144) (h64 : 64 ≤ σ.ws.length) (hst : σ.steps + 200 ≤ 1099511627776) (hd : (star [Dev p γ σ, RDev q δ ρ]).holds w) :
    PairY Tryz.prog 9 [.pointer (some ⟨p, 0, none⟩), .pointer (some ⟨q, 0, none⟩), .agg #[.int .i64 kd, .int .i64 ad, .int .i64 n, b64 x, .int .i64 sp, .int .i64 si, .int .i64 sc, .int .i64 sd, vS, vL]] (star [Dev p γ σ, RDev q δ ρ]) (fun _ => .bool true) (fun y => y.p = p ∧ y.q = q ∧ PqOk σ 160 y) w := by
 refine enter (feet [star [Dev p γ σ, RDev q δ ρ]]) [Dev p γ σ, RDev q δ ρ] Tryz.func9 rfl Tryz.ntmps9 rfl (Rep.of_star (r := star [Dev p γ σ, RDev q δ ρ]) hd) ?_
 have hgd := Dev.good (hd.2 (Dev p γ σ) (by simp))
 have hwl := hgd.len
 have hsl := hsim.len
 simp only [envOf]
 refine tR ?_
 refine At.box rfl rfl rfl (fun b1 => ?_)
 refine tA rfl rfl ?_
 refine tE ?_
 refine At.seq ?_
 refine tR ?_
 refine At.val (Val.field 0 rfl fo_38_0 rfl) rfl rfl rfl ?_
 refine At.val (Val.load (i := 0) Tryz.isAgg3 rfl rfl rfl) rfl rfl rfl ?_
 refine At.val (Val.bin rfl rfl rfl) rfl rfl rfl ?_
 refine tE ?_
 refine At.cond rfl (fun h2 => ?_) (fun h2 => ?_)
 ·skip
  try simp only [hasB, isSizeB, Bool.not_eq_true', Bool.not_eq_false', bne_iff_ne, ne_eq, bne_eq_false_iff_eq, beq_iff_eq, beq_eq_false_iff_ne, decide_eq_true_eq, decide_eq_false_iff_not, gt_iff_lt, ge_iff_le] at h2
  refine tR ?_
  refine tM rfl rfl ?_
  refine At.callD 1 rfl (fun w hw hr => forget_d _ _ _ w (ht.modS hw.mod hf) (Rep.off0 hw ht hf (i := 1) rfl) (by omega) (by omega) hr) Tryz.call13 rfl rfl (fun y3 => ?_)
  simp only [sc0, scS]
  refine tA rfl rfl ?_
  refine tE ?_
  refine tR ?_
  refine tM rfl rfl ?_
  refine At.callRP 2 rfl (fun w hw hr => rforget_s _ _ _ σ w hsim (by omega) (by omega) hr) Tryz.call14 rfl rfl (fun y4 r5 hs6 => ?_)
  simp only [sc0, scS]
  refine tA rfl rfl ?_
  refine tE ?_
  refine tR ?_
  refine tM rfl rfl ?_
  refine tM rfl rfl ?_
  refine At.val (Val.bin rfl rfl rfl) rfl rfl rfl ?_
  rw [beq_self_eq_true]
  refine tM rfl rfl ?_
  refine At.yes rfl rfl ?_
  refine tM rfl rfl ?_
  refine At.yes rfl rfl ?_
  refine tM rfl rfl ?_
  refine At.yes rfl rfl ?_
  refine At.bring 2 rfl ?_
  simp only [ec0, ecS]
  refine At.bring 2 rfl ?_
  simp only [ec0, ecS]
  refine At.callKS [Dev p y3 ((actsE σ (cleanA 0)).2), RDev q y4 (r5)] rfl (fun w hw hr => sdev_k _ _ _ _ _ _ w hs6 hr) Tryz.call15 rfl rfl ?_
  refine At.val (Val.pickT rfl rfl) rfl rfl rfl ?_
  refine tA rfl rfl ?_
  refine tE ?_
  refine At.retC ?_
  refine At.thenR ?_
  refine At.ret1 (.inl rfl) rfl rfl rfl (fun w hw => ?_)
  exact ⟨⟨p, _, _, q, _, _⟩, rfl, ⟨rfl, rfl, hs6, (cleanA0_rest (σ := σ) (by omega)).1, Nat.le_trans (cleanA0_rest (σ := σ) (by omega)).2 (by omega)⟩, Rep.shutS (F := []) (hw.drop ((List.nil_sublist _).cons_cons _ |>.cons_cons _))⟩
 ·skip
  try simp only [hasB, isSizeB, Bool.not_eq_true', Bool.not_eq_false', bne_iff_ne, ne_eq, bne_eq_false_iff_eq, beq_iff_eq, beq_eq_false_iff_ne, decide_eq_true_eq, decide_eq_false_iff_not, gt_iff_lt, ge_iff_le] at h2
  refine At.skipC ?_
  refine At.thenN ?_
  refine tR ?_
  refine At.val (Val.field 8 rfl fo_38_5 rfl) rfl rfl rfl ?_
  refine At.val (Val.load (i := 0) Tryz.isAgg35 rfl rfl rfl) rfl rfl rfl ?_
  refine At.callN (fun w hw => copySp_n _ L w (hvS.keep hw hoS) hL) Tryz.call16 rfl rfl (fun v7 => ?_)
  refine tA rfl rfl ?_
  refine tE ?_
  refine tR ?_
  refine tM rfl rfl ?_
  refine tM rfl rfl ?_
  refine At.callD 2 rfl (fun w hw hr => save_d _ _ _ _ L w (ht.modS hw.mod hf) (Rep.off0 hw ht hf (i := 2) rfl) (row_rd (hw.row (i := 0) rfl) (by decide)) (Rep.offRow (i := 0) (j := 2) hw rfl rfl (by decide)) hL (by omega) hr) Tryz.call17 rfl rfl (fun y8 => ?_)
  simp only [sc0, scS]
  refine tM rfl rfl ?_
  refine At.val (Val.extract rfl rfl) rfl rfl rfl ?_
  refine At.val (Val.extract rfl rfl) rfl rfl rfl ?_
  refine tA rfl rfl ?_
  refine tA rfl rfl ?_
  refine tE ?_
  refine tR ?_
  refine tM rfl rfl ?_
  refine At.val (Val.field 8 rfl fo_38_5 rfl) rfl rfl rfl ?_
  refine At.val (Val.load (i := 1) Tryz.isAgg35 rfl rfl rfl) rfl rfl rfl ?_
  refine At.callN (fun w hw => copySp_n _ L w (hvS.keep hw hoS) hL) Tryz.call16 rfl rfl (fun v9 => ?_)
  refine At.callRP 4 rfl (fun w hw hr => rsave_s _ _ _ σ _ L w hsim (row_rd (hw.row (i := 0) rfl) (by decide)) (Rep.offRow (i := 0) (j := 4) hw rfl rfl (by decide)) hL (by omega) hr) Tryz.call18 rfl rfl (fun y10 r11 hs12 => ?_)
  simp only [sc0, scS]
  refine tM rfl rfl ?_
  refine At.val (Val.extract rfl rfl) rfl rfl rfl ?_
  refine At.val (Val.extract rfl rfl) rfl rfl rfl ?_
  refine tA rfl rfl ?_
  refine tA rfl rfl ?_
  refine tE ?_
  refine tR ?_
  refine tM rfl rfl ?_
  refine tM rfl rfl ?_
  refine At.val (Val.eqB Tryz.underlying4 rfl rfl) rfl rfl rfl ?_
  rw [beq_self_eq_true]
  refine tM rfl rfl ?_
  refine At.yes rfl rfl ?_
  refine tM rfl rfl ?_
  refine At.yes rfl rfl ?_
  refine tM rfl rfl ?_
  refine At.yes rfl rfl ?_
  refine At.val (Val.bin rfl rfl rfl) rfl rfl rfl ?_
  rw [beq_self_eq_true]
  refine At.val (Val.pickT rfl rfl) rfl rfl rfl ?_
  refine tM rfl rfl ?_
  refine At.yes rfl rfl ?_
  refine tM rfl rfl ?_
  refine At.yes rfl rfl ?_
  refine At.val (Val.field 8 rfl fo_38_5 rfl) rfl rfl rfl ?_
  refine At.yes rfl rfl ?_
  refine At.val (Val.load (i := 2) Tryz.isAgg35 rfl rfl rfl) rfl rfl rfl ?_
  refine At.yes rfl rfl ?_
  refine At.callP (fun w hw => (by have h0 := sameSpL_p _ _ L L w (row_rd (hw.row (i := 1) rfl) (by decide)) (hvS.keep hw hoS) hL hL; rwa [decide_eq_true rfl] at h0)) Tryz.call19 rfl rfl ?_
  refine At.val (Val.pickT rfl rfl) rfl rfl rfl ?_
  refine tM rfl rfl ?_
  refine At.yes rfl rfl ?_
  refine tM rfl rfl ?_
  refine At.yes rfl rfl ?_
  refine tM rfl rfl ?_
  refine At.yes rfl rfl ?_
  refine At.bring 4 rfl ?_
  simp only [ec0, ecS]
  refine At.bring 4 rfl ?_
  simp only [ec0, ecS]
  refine At.callKS [Dev p y8 ((saveE σ L).2.2), RDev q y10 (r11)] rfl (fun w hw hr => sdev_k _ _ _ _ _ _ w hs12 hr) Tryz.call15 rfl rfl ?_
  refine At.val (Val.pickT rfl rfl) rfl rfl rfl ?_
  refine tA rfl rfl ?_
  refine tE ?_
  refine At.retC ?_
  refine At.ret1 (.inl rfl) rfl rfl rfl (fun w hw => ?_)
  exact ⟨⟨p, _, _, q, _, _⟩, rfl, ⟨rfl, rfl, hs12, (saveE_rest (σ := σ) (L := L)).1, (saveE_rest (σ := σ) (L := L)).2.1⟩, Rep.shutS (F := []) (hw.drop ((List.nil_sublist _).cons_cons _ |>.cons_cons _))⟩
theorem restL_le {l : List UInt8} {p i c dt : Int} {M : List (Int × Int)} (h : M.length ≤ 8796093022144) : (restL l p i c dt M).length ≤ 8796093022144 := by
  unfold restL
  split
  · exact h
  · show 0 ≤ _; omega
theorem restores_k (p : Nat) (γ : Rg) (ρ : Rs) (σ : Ds) (kd ad n sp si sc sd : Int) (x : BitVec 64) (vS vL : Value) (L : List (Int × Int)) (cs : List Int) (w : World) (hsim : Sim σ ρ) (ht : Tab w) (hf : ¬ feet [RDev p γ ρ] 0) (hvS : RdS w vS L) (hoS : Off vS (prS L) (feet [RDev p γ ρ])) (hL : L.length ≤ 8796093022144) (hvL : RdI w vL cs) (hoL : Off vL (cs.map (Value.int .i64)) (feet [RDev p γ ρ])) (hcl : cs.length ≤ 17592186044416) (hsp : -9223372036854775808 ≤ sp ∧ sp ≤ 9223372036854775807) (hst : ∀ u ∈ σ.ws, u.news.length ≤ 1099511627775) (hd : (RDev p γ ρ).holds w) :
    Upd Tryz.prog 10 [.pointer (some ⟨p, 0, none⟩), .agg #[.int .i64 kd, .int .i64 ad, .int .i64 n, b64 x, .int .i64 sp, .int .i64 si, .int .i64 sc, .int .i64 sd, vS, vL]] (RDev p γ ρ) (.bool true) (RDev p γ ρ) w := by
 refine enterRc hd Tryz.func10 rfl Tryz.ntmps10 rfl ?_
 obtain ⟨hQ, hg⟩ := RDev.facts hd
 have hln := hg.len
 have hps := hg.pos
 have hnw := hg.now
 have hsl := hsim.len
 simp only [envOf]
 refine tR ?_
 refine At.box rfl rfl rfl (fun b1 => ?_)
 refine tA rfl rfl ?_
 refine tE ?_
 refine tR ?_
 refine tM rfl rfl ?_
 refine At.callRK 1 rfl (fun w hw hr => rview_s _ _ _ σ w hsim (by omega) hr) Tryz.call20 rfl rfl (fun v2 => ?_)
 refine tA rfl rfl ?_
 refine tE ?_
 refine At.seq ?_
 refine tR ?_
 refine At.val (Val.field 2 rfl fo_38_2 rfl) rfl rfl rfl ?_
 refine At.val (Val.load (i := 1) Tryz.isAgg3 rfl rfl rfl) rfl rfl rfl ?_
 refine At.val (Val.rem rfl rfl (by decide)) rfl rfl rfl ?_
 refine At.val (Val.bin rfl rfl rfl) rfl rfl rfl ?_
 refine tE ?_
 refine At.cond rfl (fun h3 => ?_) (fun h3 => ?_)
 ·skip
  try simp only [hasB, isSizeB, Bool.not_eq_true', Bool.not_eq_false', bne_iff_ne, ne_eq, bne_eq_false_iff_eq, beq_iff_eq, beq_eq_false_iff_ne, decide_eq_true_eq, decide_eq_false_iff_not, gt_iff_lt, ge_iff_le] at h3
  refine At.region ?_
  refine tM rfl rfl ?_
  refine At.val (Val.field 9 rfl fo_38_6 rfl) rfl rfl rfl ?_
  refine At.val (Val.load (i := 1) Tryz.isAgg36 rfl rfl rfl) rfl rfl rfl ?_
  refine At.callRK 2 rfl (fun w hw hr => rcrash_s _ _ _ σ vL cs w hsim (by omega) hst (hvL.keep hw hoL) (Rep.offOld hw hvL hoL (List.mem_of_getElem? (i := 2) rfl)) hr) Tryz.call21 rfl rfl (fun v4 => ?_)
  refine tA rfl rfl ?_
  refine tE ?_
  refine At.seq ?_
  obtain ⟨li, hli⟩ : ∃ li, li = wbytes (picked σ.ws (pkC σ.ws cs)) := ⟨_, rfl⟩
  have hlil : li.length ≤ 140737488355328 := by rw [hli]; first | (rw [wbytes_length, viewWs, List.length_map]; omega) | (rw [wbytes_length, picked_length]; omega)
  rw [← hli]
  refine At.region ?_
  refine tM rfl rfl ?_
  refine At.rowNilB 5 ?_
  refine At.appendRowB (i := 0) (j := 1) (by_ := 1) Tryz.underlying59 info_5 rfl rfl rfl rfl rfl rfl rfl rfl (by simp only [List.length_nil]; omega) (by simp only [List.length_nil]; omega) rfl (fun v5 => ?_)
  simp only [sc0, scS]
  refine tA rfl rfl ?_
  refine At.nil ?_
  rw [show (([] : List UInt8) ++ li) = li from rfl]
  refine At.thenN ?_
  refine At.seq ?_
  apply At.any (t := 8)
  · rfl
  refine KAt.pin (fun w hw => hw.drop (List.Sublist.cons _ (List.Sublist.cons _ (List.Sublist.cons _ (List.Sublist.cons_cons _ (List.Sublist.cons _ (List.Sublist.refl _))))))) ?_
  refine KAt.take 0 (Val.field 4 rfl fo_38_4 rfl) rfl rfl rfl rfl (fun w hw => hw.drop (List.Sublist.cons _ (List.Sublist.cons _ (List.Sublist.cons _ (List.Sublist.cons_cons _ (List.Sublist.cons _ (List.Sublist.refl _))))))) (by decide +kernel) ?_
  refine KAt.take 1 (Val.loadPart (i := 0) Tryz.isAgg34 Tryz.sizeOf34 rfl rfl rfl rfl) rfl rfl rfl rfl (fun w hw => hw.drop (List.Sublist.cons _ (List.Sublist.cons _ (List.Sublist.cons _ (List.Sublist.cons_cons _ (List.Sublist.cons _ (List.Sublist.refl _))))))) (by decide +kernel) ?_
  refine KAt.take 2 (Val.field 8 rfl fo_38_5 rfl) rfl rfl rfl rfl (fun w hw => hw.drop (List.Sublist.cons _ (List.Sublist.cons _ (List.Sublist.cons _ (List.Sublist.cons_cons _ (List.Sublist.cons _ (List.Sublist.refl _))))))) (by decide +kernel) ?_
  refine KAt.take 3 (Val.load (i := 0) Tryz.isAgg35 rfl rfl rfl) rfl rfl rfl rfl (fun w hw => hw.drop (List.Sublist.cons _ (List.Sublist.cons _ (List.Sublist.cons _ (List.Sublist.cons_cons _ (List.Sublist.cons _ (List.Sublist.refl _))))))) (by decide +kernel) ?_
  refine KAt.two 4 6 rfl rfl (by decide +kernel) ?_ ?_
  ·skip
   refine At.callN (fun w hw => copySp_n _ L w (hvS.keep hw hoS) hL) Tryz.call16 rfl rfl (fun v6 => ?_)
   refine At.rowIs (i := 0) rfl (fun A7 c8 hv => ?_)
   subst hv
   refine At.nil ?_
   refine KAt.go (fun w hw => hw.drop (List.Sublist.cons _ (List.Sublist.cons _ (List.Sublist.cons _ (List.Sublist.cons _ (List.Sublist.cons_cons _ (List.Sublist.cons _ (List.Sublist.refl _)))))))) ?_
   refine KAt.take 5 (Val.build (fun a ha => by simp only [List.map_toArray, List.map_cons, List.map_nil, ha.eval (x := (.tmp 25)) rfl, ha.eval (x := (.tmp 28)) rfl] <;> rfl) (bld_64_0_2 _ _ _ _ _ _ _ )) rfl rfl rfl rfl (fun w hw => hw.drop (List.Sublist.cons _ (List.Sublist.cons _ (List.Sublist.cons _ (List.Sublist.cons _ (List.Sublist.cons_cons _ (List.Sublist.cons _ (List.Sublist.refl _)))))))) (by decide +kernel) ?_
   refine KAt.only 6 rfl (by decide +kernel) ?_
   refine At.alloc Tryz.zeroValue64 rfl rfl (fun b9 => ?_)
   refine At.nil ?_
   refine KAt.go (fun w hw => hw.drop (List.Sublist.cons _ (List.Sublist.cons _ (List.Sublist.cons _ (List.Sublist.cons _ (List.Sublist.cons _ (List.Sublist.cons_cons _ (List.Sublist.cons _ (List.Sublist.refl _))))))))) ?_
   refine KAt.only 7 rfl (by decide +kernel) ?_
   refine At.rowOne (i := 1) rfl (fun ho10 => ?_)
   refine At.storeAll (i := 0) Tryz.sizeOf64 rfl rfl rfl (by intro u hu; simp only [List.mem_cons, List.not_mem_nil, or_false] at hu; rcases hu with rfl | rfl | rfl | rfl | rfl | rfl <;> first | rfl | assumption) rfl rfl ?_
   simp only [sc0, scS]
   refine At.nil ?_
   refine KAt.go (fun w hw => hw.drop (List.Sublist.cons _ (List.Sublist.cons _ (List.Sublist.cons _ (List.Sublist.cons _ (List.Sublist.cons _ (List.Sublist.cons_cons _ (List.Sublist.cons _ (List.Sublist.refl _))))))))) ?_
   refine KAt.done (by decide +kernel) ?_
   refine At.thenN ?_
   refine tR ?_
   refine tM rfl rfl ?_
   refine At.val (Val.loadAll (i := 0) Tryz.isAgg64 Tryz.sizeOf64 rfl rfl rfl) rfl rfl rfl ?_
   refine At.callNT (g := (fun v => .tuple #[v, .int .i64 (restE li sp si sc sd L)])) (fun w hw => restore_n _ _ li sp si sc sd L w (ht.modS hw.mod hf) (row_rd (hw.row (i := 2) rfl) (by decide)) (row_rd (hw.row (i := 1) rfl) (by decide)) hlil hL) Tryz.call22 rfl rfl (fun v11 => ?_)
   refine tM rfl rfl ?_
   refine At.val (Val.extract rfl rfl) rfl rfl rfl ?_
   refine At.val (Val.extract rfl rfl) rfl rfl rfl ?_
   refine tA rfl rfl ?_
   refine tA rfl rfl ?_
   refine tE ?_
   refine At.seq ?_
   apply At.any (t := 13)
   · rfl
   refine KAt.pin (fun w hw => hw.drop (List.Sublist.cons _ (List.Sublist.cons _ (List.Sublist.cons _ (List.Sublist.cons _ (List.Sublist.cons _ (List.Sublist.cons _ (List.Sublist.cons_cons _ (List.Sublist.cons _ (List.Sublist.refl _)))))))))) ?_
   refine KAt.take 0 (Val.move rfl) rfl rfl rfl rfl (fun w hw => hw.drop (List.Sublist.cons _ (List.Sublist.cons _ (List.Sublist.cons _ (List.Sublist.cons _ (List.Sublist.cons _ (List.Sublist.cons _ (List.Sublist.cons_cons _ (List.Sublist.cons _ (List.Sublist.refl _)))))))))) (by decide +kernel) ?_
   refine KAt.take 1 (Val.field 4 rfl fo_38_4 rfl) rfl rfl rfl rfl (fun w hw => hw.drop (List.Sublist.cons _ (List.Sublist.cons _ (List.Sublist.cons _ (List.Sublist.cons _ (List.Sublist.cons _ (List.Sublist.cons _ (List.Sublist.cons_cons _ (List.Sublist.cons _ (List.Sublist.refl _)))))))))) (by decide +kernel) ?_
   refine KAt.take 2 (Val.loadPart (i := 0) Tryz.isAgg34 Tryz.sizeOf34 rfl rfl rfl rfl) rfl rfl rfl rfl (fun w hw => hw.drop (List.Sublist.cons _ (List.Sublist.cons _ (List.Sublist.cons _ (List.Sublist.cons _ (List.Sublist.cons _ (List.Sublist.cons _ (List.Sublist.cons_cons _ (List.Sublist.cons _ (List.Sublist.refl _)))))))))) (by decide +kernel) ?_
   refine KAt.take 3 (Val.field 8 rfl fo_38_5 rfl) rfl rfl rfl rfl (fun w hw => hw.drop (List.Sublist.cons _ (List.Sublist.cons _ (List.Sublist.cons _ (List.Sublist.cons _ (List.Sublist.cons _ (List.Sublist.cons _ (List.Sublist.cons_cons _ (List.Sublist.cons _ (List.Sublist.refl _)))))))))) (by decide +kernel) ?_
   refine KAt.take 4 (Val.load (i := 0) Tryz.isAgg35 rfl rfl rfl) rfl rfl rfl rfl (fun w hw => hw.drop (List.Sublist.cons _ (List.Sublist.cons _ (List.Sublist.cons _ (List.Sublist.cons _ (List.Sublist.cons _ (List.Sublist.cons _ (List.Sublist.cons_cons _ (List.Sublist.cons _ (List.Sublist.refl _)))))))))) (by decide +kernel) ?_
   refine KAt.only 5 rfl (by decide +kernel) ?_
   refine At.callN (fun w hw => copySp_n _ L w (hvS.keep hw hoS) hL) Tryz.call16 rfl rfl (fun v12 => ?_)
   refine At.rowIs (i := 0) rfl (fun A13 c14 hv => ?_)
   subst hv
   refine At.nil ?_
   refine KAt.go (fun w hw => hw.drop (List.Sublist.cons _ (List.Sublist.cons _ (List.Sublist.cons _ (List.Sublist.cons _ (List.Sublist.cons _ (List.Sublist.cons _ (List.Sublist.cons _ (List.Sublist.cons_cons _ (List.Sublist.cons _ (List.Sublist.refl _))))))))))) ?_
   refine KAt.take 6 (Val.build (fun a ha => by simp only [List.map_toArray, List.map_cons, List.map_nil, ha.eval (x := (.tmp 39)) rfl, ha.eval (x := (.tmp 42)) rfl] <;> rfl) (bld_64_0_2 _ _ _ _ _ _ _ )) rfl rfl rfl rfl (fun w hw => hw.drop (List.Sublist.cons _ (List.Sublist.cons _ (List.Sublist.cons _ (List.Sublist.cons _ (List.Sublist.cons _ (List.Sublist.cons _ (List.Sublist.cons _ (List.Sublist.cons_cons _ (List.Sublist.cons _ (List.Sublist.refl _))))))))))) (by decide +kernel) ?_
   refine KAt.only 7 rfl (by decide +kernel) ?_
   refine At.callNT (g := (fun v => .tuple #[v, .int .i64 (restE li sp si sc sd L)])) (fun w hw => restore13_n _ _ li sp si sc sd L w (row_rd (hw.row (i := 5) rfl) (by decide)) (row_rd (hw.row (i := 0) rfl) (by decide)) hlil hL hsp) Tryz.call23 rfl rfl (fun v15 => ?_)
   refine At.nil ?_
   refine KAt.go (fun w hw => hw.drop (List.Sublist.cons _ (List.Sublist.cons _ (List.Sublist.cons _ (List.Sublist.cons _ (List.Sublist.cons _ (List.Sublist.cons _ (List.Sublist.cons _ (List.Sublist.cons _ (List.Sublist.cons_cons _ (List.Sublist.cons _ (List.Sublist.refl _)))))))))))) ?_
   refine KAt.take 8 (Val.move rfl) rfl rfl rfl rfl (fun w hw => hw.drop (List.Sublist.cons _ (List.Sublist.cons _ (List.Sublist.cons _ (List.Sublist.cons _ (List.Sublist.cons _ (List.Sublist.cons _ (List.Sublist.cons _ (List.Sublist.cons _ (List.Sublist.cons_cons _ (List.Sublist.cons _ (List.Sublist.refl _)))))))))))) (by decide +kernel) ?_
   refine KAt.take 9 (Val.extract rfl rfl) rfl rfl rfl rfl (fun w hw => hw.drop (List.Sublist.cons _ (List.Sublist.cons _ (List.Sublist.cons _ (List.Sublist.cons _ (List.Sublist.cons _ (List.Sublist.cons _ (List.Sublist.cons _ (List.Sublist.cons _ (List.Sublist.cons_cons _ (List.Sublist.cons _ (List.Sublist.refl _)))))))))))) (by decide +kernel) ?_
   refine KAt.take 10 (Val.extract rfl rfl) rfl rfl rfl rfl (fun w hw => hw.drop (List.Sublist.cons _ (List.Sublist.cons _ (List.Sublist.cons _ (List.Sublist.cons _ (List.Sublist.cons _ (List.Sublist.cons _ (List.Sublist.cons _ (List.Sublist.cons _ (List.Sublist.cons_cons _ (List.Sublist.cons _ (List.Sublist.refl _)))))))))))) (by decide +kernel) ?_
   refine KAt.take 11 (Val.assign rfl) rfl rfl rfl rfl (fun w hw => hw.drop (List.Sublist.cons _ (List.Sublist.cons _ (List.Sublist.cons _ (List.Sublist.cons _ (List.Sublist.cons _ (List.Sublist.cons _ (List.Sublist.cons _ (List.Sublist.cons _ (List.Sublist.cons_cons _ (List.Sublist.cons _ (List.Sublist.refl _)))))))))))) (by decide +kernel) ?_
   refine KAt.take 12 (Val.assign rfl) rfl rfl rfl rfl (fun w hw => hw.drop (List.Sublist.cons _ (List.Sublist.cons _ (List.Sublist.cons _ (List.Sublist.cons _ (List.Sublist.cons _ (List.Sublist.cons _ (List.Sublist.cons _ (List.Sublist.cons _ (List.Sublist.cons_cons _ (List.Sublist.cons _ (List.Sublist.refl _)))))))))))) (by decide +kernel) ?_
   refine KAt.done (by decide +kernel) ?_
   refine At.thenN ?_
   refine tR ?_
   refine tM rfl rfl ?_
   refine tM rfl rfl ?_
   refine At.val (Val.bin rfl rfl rfl) rfl rfl rfl ?_
   rw [beq_self_eq_true]
   refine tM rfl rfl ?_
   refine At.yes rfl rfl ?_
   refine tM rfl rfl ?_
   refine At.yes rfl rfl ?_
   refine tM rfl rfl ?_
   refine At.yes rfl rfl ?_
   refine At.callP (fun w hw => (by have h0 := sameSpL_p _ _ (restL li sp si sc sd L) (restL li sp si sc sd L) w (row_rd (hw.row (i := 2) rfl) (by decide)) (row_rd (hw.row (i := 0) rfl) (by decide)) (restL_le hL) (restL_le hL); rwa [decide_eq_true rfl] at h0)) Tryz.call19 rfl rfl ?_
   refine At.val (Val.pickT rfl rfl) rfl rfl rfl ?_
   refine tM rfl rfl ?_
   refine At.yes rfl rfl ?_
   refine tM rfl rfl ?_
   refine At.yes rfl rfl ?_
   refine tM rfl rfl ?_
   refine At.yes rfl rfl ?_
   refine At.callP (fun w hw => (by have h0 := sameBytes_p _ _ li li w (row_rd (hw.row (i := 5) rfl) (by decide)) (row_rd (hw.row (i := 6) rfl) (by decide)) hlil hlil; rwa [decide_eq_true rfl] at h0)) Tryz.call24 rfl rfl ?_
   refine At.val (Val.pickT rfl rfl) rfl rfl rfl ?_
   refine tM rfl rfl ?_
   refine At.yes rfl rfl ?_
   refine At.val (Val.field 5 rfl fo_64_2 rfl) rfl rfl rfl ?_
   refine At.yes rfl rfl ?_
   refine At.val (Val.load (i := 3) Tryz.isAgg35 rfl rfl rfl) rfl rfl rfl ?_
   refine At.yes rfl rfl ?_
   refine At.val (Val.field 8 rfl fo_38_5 rfl) rfl rfl rfl ?_
   refine At.yes rfl rfl ?_
   refine At.val (Val.load (i := 8) Tryz.isAgg35 rfl rfl rfl) rfl rfl rfl ?_
   refine At.yes rfl rfl ?_
   refine At.callP (fun w hw => (by have h0 := sameSpL_p _ _ L L w (row_rd (hw.row (i := 4) rfl) (by decide)) (hvS.keep hw hoS) hL hL; rwa [decide_eq_true rfl] at h0)) Tryz.call19 rfl rfl ?_
   refine At.val (Val.pickT rfl rfl) rfl rfl rfl ?_
   refine tA rfl rfl ?_
   refine tE ?_
   refine At.retC ?_
   refine At.ret1 (.inl rfl) rfl rfl rfl (fun w hw => ?_)
   exact ⟨rfl, hw.drop (List.singleton_sublist.2 (List.mem_of_getElem? (i := 9) rfl))⟩
  ·skip
   refine At.alloc Tryz.zeroValue64 rfl rfl (fun b16 => ?_)
   refine At.nil ?_
   refine KAt.go (fun w hw => hw.drop (List.Sublist.cons _ (List.Sublist.cons _ (List.Sublist.cons _ (List.Sublist.cons _ (List.Sublist.cons_cons _ (List.Sublist.cons _ (List.Sublist.refl _)))))))) ?_
   refine KAt.only 4 rfl (by decide +kernel) ?_
   refine At.callN (fun w hw => copySp_n _ L w (hvS.keep hw hoS) hL) Tryz.call16 rfl rfl (fun v17 => ?_)
   refine At.rowIs (i := 0) rfl (fun A18 c19 hv => ?_)
   subst hv
   refine At.nil ?_
   refine KAt.go (fun w hw => hw.drop (List.Sublist.cons _ (List.Sublist.cons _ (List.Sublist.cons _ (List.Sublist.cons _ (List.Sublist.cons _ (List.Sublist.cons_cons _ (List.Sublist.cons _ (List.Sublist.refl _))))))))) ?_
   refine KAt.take 5 (Val.build (fun a ha => by simp only [List.map_toArray, List.map_cons, List.map_nil, ha.eval (x := (.tmp 25)) rfl, ha.eval (x := (.tmp 28)) rfl] <;> rfl) (bld_64_0_2 _ _ _ _ _ _ _ )) rfl rfl rfl rfl (fun w hw => hw.drop (List.Sublist.cons _ (List.Sublist.cons _ (List.Sublist.cons _ (List.Sublist.cons _ (List.Sublist.cons _ (List.Sublist.cons_cons _ (List.Sublist.cons _ (List.Sublist.refl _))))))))) (by decide +kernel) ?_
   refine KAt.only 7 rfl (by decide +kernel) ?_
   refine At.rowOne (i := 0) rfl (fun ho20 => ?_)
   refine At.storeAll (i := 1) Tryz.sizeOf64 rfl rfl rfl (by intro u hu; simp only [List.mem_cons, List.not_mem_nil, or_false] at hu; rcases hu with rfl | rfl | rfl | rfl | rfl | rfl <;> first | rfl | assumption) rfl rfl ?_
   simp only [sc0, scS]
   refine At.nil ?_
   refine KAt.go (fun w hw => hw.drop (List.Sublist.cons _ (List.Sublist.cons _ (List.Sublist.cons _ (List.Sublist.cons _ (List.Sublist.cons _ (List.Sublist.cons_cons _ (List.Sublist.cons _ (List.Sublist.refl _))))))))) ?_
   refine KAt.done (by decide +kernel) ?_
   refine At.thenN ?_
   refine tR ?_
   refine tM rfl rfl ?_
   refine At.val (Val.loadAll (i := 1) Tryz.isAgg64 Tryz.sizeOf64 rfl rfl rfl) rfl rfl rfl ?_
   refine At.callNT (g := (fun v => .tuple #[v, .int .i64 (restE li sp si sc sd L)])) (fun w hw => restore_n _ _ li sp si sc sd L w (ht.modS hw.mod hf) (row_rd (hw.row (i := 2) rfl) (by decide)) (row_rd (hw.row (i := 0) rfl) (by decide)) hlil hL) Tryz.call22 rfl rfl (fun v21 => ?_)
   refine tM rfl rfl ?_
   refine At.val (Val.extract rfl rfl) rfl rfl rfl ?_
   refine At.val (Val.extract rfl rfl) rfl rfl rfl ?_
   refine tA rfl rfl ?_
   refine tA rfl rfl ?_
   refine tE ?_
   refine At.seq ?_
   apply At.any (t := 13)
   · rfl
   refine KAt.pin (fun w hw => hw.drop (List.Sublist.cons _ (List.Sublist.cons _ (List.Sublist.cons _ (List.Sublist.cons _ (List.Sublist.cons _ (List.Sublist.cons _ (List.Sublist.cons_cons _ (List.Sublist.cons _ (List.Sublist.refl _)))))))))) ?_
   refine KAt.take 0 (Val.move rfl) rfl rfl rfl rfl (fun w hw => hw.drop (List.Sublist.cons _ (List.Sublist.cons _ (List.Sublist.cons _ (List.Sublist.cons _ (List.Sublist.cons _ (List.Sublist.cons _ (List.Sublist.cons_cons _ (List.Sublist.cons _ (List.Sublist.refl _)))))))))) (by decide +kernel) ?_
   refine KAt.take 1 (Val.field 4 rfl fo_38_4 rfl) rfl rfl rfl rfl (fun w hw => hw.drop (List.Sublist.cons _ (List.Sublist.cons _ (List.Sublist.cons _ (List.Sublist.cons _ (List.Sublist.cons _ (List.Sublist.cons _ (List.Sublist.cons_cons _ (List.Sublist.cons _ (List.Sublist.refl _)))))))))) (by decide +kernel) ?_
   refine KAt.take 2 (Val.loadPart (i := 0) Tryz.isAgg34 Tryz.sizeOf34 rfl rfl rfl rfl) rfl rfl rfl rfl (fun w hw => hw.drop (List.Sublist.cons _ (List.Sublist.cons _ (List.Sublist.cons _ (List.Sublist.cons _ (List.Sublist.cons _ (List.Sublist.cons _ (List.Sublist.cons_cons _ (List.Sublist.cons _ (List.Sublist.refl _)))))))))) (by decide +kernel) ?_
   refine KAt.take 3 (Val.field 8 rfl fo_38_5 rfl) rfl rfl rfl rfl (fun w hw => hw.drop (List.Sublist.cons _ (List.Sublist.cons _ (List.Sublist.cons _ (List.Sublist.cons _ (List.Sublist.cons _ (List.Sublist.cons _ (List.Sublist.cons_cons _ (List.Sublist.cons _ (List.Sublist.refl _)))))))))) (by decide +kernel) ?_
   refine KAt.take 4 (Val.load (i := 0) Tryz.isAgg35 rfl rfl rfl) rfl rfl rfl rfl (fun w hw => hw.drop (List.Sublist.cons _ (List.Sublist.cons _ (List.Sublist.cons _ (List.Sublist.cons _ (List.Sublist.cons _ (List.Sublist.cons _ (List.Sublist.cons_cons _ (List.Sublist.cons _ (List.Sublist.refl _)))))))))) (by decide +kernel) ?_
   refine KAt.only 5 rfl (by decide +kernel) ?_
   refine At.callN (fun w hw => copySp_n _ L w (hvS.keep hw hoS) hL) Tryz.call16 rfl rfl (fun v22 => ?_)
   refine At.rowIs (i := 0) rfl (fun A23 c24 hv => ?_)
   subst hv
   refine At.nil ?_
   refine KAt.go (fun w hw => hw.drop (List.Sublist.cons _ (List.Sublist.cons _ (List.Sublist.cons _ (List.Sublist.cons _ (List.Sublist.cons _ (List.Sublist.cons _ (List.Sublist.cons _ (List.Sublist.cons_cons _ (List.Sublist.cons _ (List.Sublist.refl _))))))))))) ?_
   refine KAt.take 6 (Val.build (fun a ha => by simp only [List.map_toArray, List.map_cons, List.map_nil, ha.eval (x := (.tmp 39)) rfl, ha.eval (x := (.tmp 42)) rfl] <;> rfl) (bld_64_0_2 _ _ _ _ _ _ _ )) rfl rfl rfl rfl (fun w hw => hw.drop (List.Sublist.cons _ (List.Sublist.cons _ (List.Sublist.cons _ (List.Sublist.cons _ (List.Sublist.cons _ (List.Sublist.cons _ (List.Sublist.cons _ (List.Sublist.cons_cons _ (List.Sublist.cons _ (List.Sublist.refl _))))))))))) (by decide +kernel) ?_
   refine KAt.only 7 rfl (by decide +kernel) ?_
   refine At.callNT (g := (fun v => .tuple #[v, .int .i64 (restE li sp si sc sd L)])) (fun w hw => restore13_n _ _ li sp si sc sd L w (row_rd (hw.row (i := 5) rfl) (by decide)) (row_rd (hw.row (i := 0) rfl) (by decide)) hlil hL hsp) Tryz.call23 rfl rfl (fun v25 => ?_)
   refine At.nil ?_
   refine KAt.go (fun w hw => hw.drop (List.Sublist.cons _ (List.Sublist.cons _ (List.Sublist.cons _ (List.Sublist.cons _ (List.Sublist.cons _ (List.Sublist.cons _ (List.Sublist.cons _ (List.Sublist.cons _ (List.Sublist.cons_cons _ (List.Sublist.cons _ (List.Sublist.refl _)))))))))))) ?_
   refine KAt.take 8 (Val.move rfl) rfl rfl rfl rfl (fun w hw => hw.drop (List.Sublist.cons _ (List.Sublist.cons _ (List.Sublist.cons _ (List.Sublist.cons _ (List.Sublist.cons _ (List.Sublist.cons _ (List.Sublist.cons _ (List.Sublist.cons _ (List.Sublist.cons_cons _ (List.Sublist.cons _ (List.Sublist.refl _)))))))))))) (by decide +kernel) ?_
   refine KAt.take 9 (Val.extract rfl rfl) rfl rfl rfl rfl (fun w hw => hw.drop (List.Sublist.cons _ (List.Sublist.cons _ (List.Sublist.cons _ (List.Sublist.cons _ (List.Sublist.cons _ (List.Sublist.cons _ (List.Sublist.cons _ (List.Sublist.cons _ (List.Sublist.cons_cons _ (List.Sublist.cons _ (List.Sublist.refl _)))))))))))) (by decide +kernel) ?_
   refine KAt.take 10 (Val.extract rfl rfl) rfl rfl rfl rfl (fun w hw => hw.drop (List.Sublist.cons _ (List.Sublist.cons _ (List.Sublist.cons _ (List.Sublist.cons _ (List.Sublist.cons _ (List.Sublist.cons _ (List.Sublist.cons _ (List.Sublist.cons _ (List.Sublist.cons_cons _ (List.Sublist.cons _ (List.Sublist.refl _)))))))))))) (by decide +kernel) ?_
   refine KAt.take 11 (Val.assign rfl) rfl rfl rfl rfl (fun w hw => hw.drop (List.Sublist.cons _ (List.Sublist.cons _ (List.Sublist.cons _ (List.Sublist.cons _ (List.Sublist.cons _ (List.Sublist.cons _ (List.Sublist.cons _ (List.Sublist.cons _ (List.Sublist.cons_cons _ (List.Sublist.cons _ (List.Sublist.refl _)))))))))))) (by decide +kernel) ?_
   refine KAt.take 12 (Val.assign rfl) rfl rfl rfl rfl (fun w hw => hw.drop (List.Sublist.cons _ (List.Sublist.cons _ (List.Sublist.cons _ (List.Sublist.cons _ (List.Sublist.cons _ (List.Sublist.cons _ (List.Sublist.cons _ (List.Sublist.cons _ (List.Sublist.cons_cons _ (List.Sublist.cons _ (List.Sublist.refl _)))))))))))) (by decide +kernel) ?_
   refine KAt.done (by decide +kernel) ?_
   refine At.thenN ?_
   refine tR ?_
   refine tM rfl rfl ?_
   refine tM rfl rfl ?_
   refine At.val (Val.bin rfl rfl rfl) rfl rfl rfl ?_
   rw [beq_self_eq_true]
   refine tM rfl rfl ?_
   refine At.yes rfl rfl ?_
   refine tM rfl rfl ?_
   refine At.yes rfl rfl ?_
   refine tM rfl rfl ?_
   refine At.yes rfl rfl ?_
   refine At.callP (fun w hw => (by have h0 := sameSpL_p _ _ (restL li sp si sc sd L) (restL li sp si sc sd L) w (row_rd (hw.row (i := 2) rfl) (by decide)) (row_rd (hw.row (i := 0) rfl) (by decide)) (restL_le hL) (restL_le hL); rwa [decide_eq_true rfl] at h0)) Tryz.call19 rfl rfl ?_
   refine At.val (Val.pickT rfl rfl) rfl rfl rfl ?_
   refine tM rfl rfl ?_
   refine At.yes rfl rfl ?_
   refine tM rfl rfl ?_
   refine At.yes rfl rfl ?_
   refine tM rfl rfl ?_
   refine At.yes rfl rfl ?_
   refine At.callP (fun w hw => (by have h0 := sameBytes_p _ _ li li w (row_rd (hw.row (i := 5) rfl) (by decide)) (row_rd (hw.row (i := 6) rfl) (by decide)) hlil hlil; rwa [decide_eq_true rfl] at h0)) Tryz.call24 rfl rfl ?_
   refine At.val (Val.pickT rfl rfl) rfl rfl rfl ?_
   refine tM rfl rfl ?_
   refine At.yes rfl rfl ?_
   refine At.val (Val.field 5 rfl fo_64_2 rfl) rfl rfl rfl ?_
   refine At.yes rfl rfl ?_
   refine At.val (Val.load (i := 4) Tryz.isAgg35 rfl rfl rfl) rfl rfl rfl ?_
   refine At.yes rfl rfl ?_
   refine At.val (Val.field 8 rfl fo_38_5 rfl) rfl rfl rfl ?_
   refine At.yes rfl rfl ?_
   refine At.val (Val.load (i := 8) Tryz.isAgg35 rfl rfl rfl) rfl rfl rfl ?_
   refine At.yes rfl rfl ?_
   refine At.callP (fun w hw => (by have h0 := sameSpL_p _ _ L L w (row_rd (hw.row (i := 3) rfl) (by decide)) (hvS.keep hw hoS) hL hL; rwa [decide_eq_true rfl] at h0)) Tryz.call19 rfl rfl ?_
   refine At.val (Val.pickT rfl rfl) rfl rfl rfl ?_
   refine tA rfl rfl ?_
   refine tE ?_
   refine At.retC ?_
   refine At.ret1 (.inl rfl) rfl rfl rfl (fun w hw => ?_)
   exact ⟨rfl, hw.drop (List.singleton_sublist.2 (List.mem_of_getElem? (i := 9) rfl))⟩
 ·skip
  try simp only [hasB, isSizeB, Bool.not_eq_true', Bool.not_eq_false', bne_iff_ne, ne_eq, bne_eq_false_iff_eq, beq_iff_eq, beq_eq_false_iff_ne, decide_eq_true_eq, decide_eq_false_iff_not, gt_iff_lt, ge_iff_le] at h3
  refine At.skipC ?_
  refine At.thenN ?_
  refine At.seq ?_
  obtain ⟨li, hli⟩ : ∃ li, li = wbytes (viewWs σ.ws) := ⟨_, rfl⟩
  have hlil : li.length ≤ 140737488355328 := by rw [hli]; first | (rw [wbytes_length, viewWs, List.length_map]; omega) | (rw [wbytes_length, picked_length]; omega)
  rw [← hli]
  refine At.region ?_
  refine tM rfl rfl ?_
  refine At.rowNilB 5 ?_
  refine At.appendRowB (i := 0) (j := 1) (by_ := 1) Tryz.underlying59 info_5 rfl rfl rfl rfl rfl rfl rfl rfl (by simp only [List.length_nil]; omega) (by simp only [List.length_nil]; omega) rfl (fun v26 => ?_)
  simp only [sc0, scS]
  refine tA rfl rfl ?_
  refine At.nil ?_
  rw [show (([] : List UInt8) ++ li) = li from rfl]
  refine At.thenN ?_
  refine At.seq ?_
  apply At.any (t := 8)
  · rfl
  refine KAt.pin (fun w hw => hw.drop (List.Sublist.cons _ (List.Sublist.cons _ (List.Sublist.cons_cons _ (List.Sublist.cons _ (List.Sublist.refl _)))))) ?_
  refine KAt.take 0 (Val.field 4 rfl fo_38_4 rfl) rfl rfl rfl rfl (fun w hw => hw.drop (List.Sublist.cons _ (List.Sublist.cons _ (List.Sublist.cons_cons _ (List.Sublist.cons _ (List.Sublist.refl _)))))) (by decide +kernel) ?_
  refine KAt.take 1 (Val.loadPart (i := 0) Tryz.isAgg34 Tryz.sizeOf34 rfl rfl rfl rfl) rfl rfl rfl rfl (fun w hw => hw.drop (List.Sublist.cons _ (List.Sublist.cons _ (List.Sublist.cons_cons _ (List.Sublist.cons _ (List.Sublist.refl _)))))) (by decide +kernel) ?_
  refine KAt.take 2 (Val.field 8 rfl fo_38_5 rfl) rfl rfl rfl rfl (fun w hw => hw.drop (List.Sublist.cons _ (List.Sublist.cons _ (List.Sublist.cons_cons _ (List.Sublist.cons _ (List.Sublist.refl _)))))) (by decide +kernel) ?_
  refine KAt.take 3 (Val.load (i := 0) Tryz.isAgg35 rfl rfl rfl) rfl rfl rfl rfl (fun w hw => hw.drop (List.Sublist.cons _ (List.Sublist.cons _ (List.Sublist.cons_cons _ (List.Sublist.cons _ (List.Sublist.refl _)))))) (by decide +kernel) ?_
  refine KAt.two 4 6 rfl rfl (by decide +kernel) ?_ ?_
  ·skip
   refine At.callN (fun w hw => copySp_n _ L w (hvS.keep hw hoS) hL) Tryz.call16 rfl rfl (fun v27 => ?_)
   refine At.rowIs (i := 0) rfl (fun A28 c29 hv => ?_)
   subst hv
   refine At.nil ?_
   refine KAt.go (fun w hw => hw.drop (List.Sublist.cons _ (List.Sublist.cons _ (List.Sublist.cons _ (List.Sublist.cons_cons _ (List.Sublist.cons _ (List.Sublist.refl _))))))) ?_
   refine KAt.take 5 (Val.build (fun a ha => by simp only [List.map_toArray, List.map_cons, List.map_nil, ha.eval (x := (.tmp 25)) rfl, ha.eval (x := (.tmp 28)) rfl] <;> rfl) (bld_64_0_2 _ _ _ _ _ _ _ )) rfl rfl rfl rfl (fun w hw => hw.drop (List.Sublist.cons _ (List.Sublist.cons _ (List.Sublist.cons _ (List.Sublist.cons_cons _ (List.Sublist.cons _ (List.Sublist.refl _))))))) (by decide +kernel) ?_
   refine KAt.only 6 rfl (by decide +kernel) ?_
   refine At.alloc Tryz.zeroValue64 rfl rfl (fun b30 => ?_)
   refine At.nil ?_
   refine KAt.go (fun w hw => hw.drop (List.Sublist.cons _ (List.Sublist.cons _ (List.Sublist.cons _ (List.Sublist.cons _ (List.Sublist.cons_cons _ (List.Sublist.cons _ (List.Sublist.refl _)))))))) ?_
   refine KAt.only 7 rfl (by decide +kernel) ?_
   refine At.rowOne (i := 1) rfl (fun ho31 => ?_)
   refine At.storeAll (i := 0) Tryz.sizeOf64 rfl rfl rfl (by intro u hu; simp only [List.mem_cons, List.not_mem_nil, or_false] at hu; rcases hu with rfl | rfl | rfl | rfl | rfl | rfl <;> first | rfl | assumption) rfl rfl ?_
   simp only [sc0, scS]
   refine At.nil ?_
   refine KAt.go (fun w hw => hw.drop (List.Sublist.cons _ (List.Sublist.cons _ (List.Sublist.cons _ (List.Sublist.cons _ (List.Sublist.cons_cons _ (List.Sublist.cons _ (List.Sublist.refl _)))))))) ?_
   refine KAt.done (by decide +kernel) ?_
   refine At.thenN ?_
   refine tR ?_
   refine tM rfl rfl ?_
   refine At.val (Val.loadAll (i := 0) Tryz.isAgg64 Tryz.sizeOf64 rfl rfl rfl) rfl rfl rfl ?_
   refine At.callNT (g := (fun v => .tuple #[v, .int .i64 (restE li sp si sc sd L)])) (fun w hw => restore_n _ _ li sp si sc sd L w (ht.modS hw.mod hf) (row_rd (hw.row (i := 2) rfl) (by decide)) (row_rd (hw.row (i := 1) rfl) (by decide)) hlil hL) Tryz.call22 rfl rfl (fun v32 => ?_)
   refine tM rfl rfl ?_
   refine At.val (Val.extract rfl rfl) rfl rfl rfl ?_
   refine At.val (Val.extract rfl rfl) rfl rfl rfl ?_
   refine tA rfl rfl ?_
   refine tA rfl rfl ?_
   refine tE ?_
   refine At.seq ?_
   apply At.any (t := 13)
   · rfl
   refine KAt.pin (fun w hw => hw.drop (List.Sublist.cons _ (List.Sublist.cons _ (List.Sublist.cons _ (List.Sublist.cons _ (List.Sublist.cons _ (List.Sublist.cons_cons _ (List.Sublist.cons _ (List.Sublist.refl _))))))))) ?_
   refine KAt.take 0 (Val.move rfl) rfl rfl rfl rfl (fun w hw => hw.drop (List.Sublist.cons _ (List.Sublist.cons _ (List.Sublist.cons _ (List.Sublist.cons _ (List.Sublist.cons _ (List.Sublist.cons_cons _ (List.Sublist.cons _ (List.Sublist.refl _))))))))) (by decide +kernel) ?_
   refine KAt.take 1 (Val.field 4 rfl fo_38_4 rfl) rfl rfl rfl rfl (fun w hw => hw.drop (List.Sublist.cons _ (List.Sublist.cons _ (List.Sublist.cons _ (List.Sublist.cons _ (List.Sublist.cons _ (List.Sublist.cons_cons _ (List.Sublist.cons _ (List.Sublist.refl _))))))))) (by decide +kernel) ?_
   refine KAt.take 2 (Val.loadPart (i := 0) Tryz.isAgg34 Tryz.sizeOf34 rfl rfl rfl rfl) rfl rfl rfl rfl (fun w hw => hw.drop (List.Sublist.cons _ (List.Sublist.cons _ (List.Sublist.cons _ (List.Sublist.cons _ (List.Sublist.cons _ (List.Sublist.cons_cons _ (List.Sublist.cons _ (List.Sublist.refl _))))))))) (by decide +kernel) ?_
   refine KAt.take 3 (Val.field 8 rfl fo_38_5 rfl) rfl rfl rfl rfl (fun w hw => hw.drop (List.Sublist.cons _ (List.Sublist.cons _ (List.Sublist.cons _ (List.Sublist.cons _ (List.Sublist.cons _ (List.Sublist.cons_cons _ (List.Sublist.cons _ (List.Sublist.refl _))))))))) (by decide +kernel) ?_
   refine KAt.take 4 (Val.load (i := 0) Tryz.isAgg35 rfl rfl rfl) rfl rfl rfl rfl (fun w hw => hw.drop (List.Sublist.cons _ (List.Sublist.cons _ (List.Sublist.cons _ (List.Sublist.cons _ (List.Sublist.cons _ (List.Sublist.cons_cons _ (List.Sublist.cons _ (List.Sublist.refl _))))))))) (by decide +kernel) ?_
   refine KAt.only 5 rfl (by decide +kernel) ?_
   refine At.callN (fun w hw => copySp_n _ L w (hvS.keep hw hoS) hL) Tryz.call16 rfl rfl (fun v33 => ?_)
   refine At.rowIs (i := 0) rfl (fun A34 c35 hv => ?_)
   subst hv
   refine At.nil ?_
   refine KAt.go (fun w hw => hw.drop (List.Sublist.cons _ (List.Sublist.cons _ (List.Sublist.cons _ (List.Sublist.cons _ (List.Sublist.cons _ (List.Sublist.cons _ (List.Sublist.cons_cons _ (List.Sublist.cons _ (List.Sublist.refl _)))))))))) ?_
   refine KAt.take 6 (Val.build (fun a ha => by simp only [List.map_toArray, List.map_cons, List.map_nil, ha.eval (x := (.tmp 39)) rfl, ha.eval (x := (.tmp 42)) rfl] <;> rfl) (bld_64_0_2 _ _ _ _ _ _ _ )) rfl rfl rfl rfl (fun w hw => hw.drop (List.Sublist.cons _ (List.Sublist.cons _ (List.Sublist.cons _ (List.Sublist.cons _ (List.Sublist.cons _ (List.Sublist.cons _ (List.Sublist.cons_cons _ (List.Sublist.cons _ (List.Sublist.refl _)))))))))) (by decide +kernel) ?_
   refine KAt.only 7 rfl (by decide +kernel) ?_
   refine At.callNT (g := (fun v => .tuple #[v, .int .i64 (restE li sp si sc sd L)])) (fun w hw => restore13_n _ _ li sp si sc sd L w (row_rd (hw.row (i := 5) rfl) (by decide)) (row_rd (hw.row (i := 0) rfl) (by decide)) hlil hL hsp) Tryz.call23 rfl rfl (fun v36 => ?_)
   refine At.nil ?_
   refine KAt.go (fun w hw => hw.drop (List.Sublist.cons _ (List.Sublist.cons _ (List.Sublist.cons _ (List.Sublist.cons _ (List.Sublist.cons _ (List.Sublist.cons _ (List.Sublist.cons _ (List.Sublist.cons_cons _ (List.Sublist.cons _ (List.Sublist.refl _))))))))))) ?_
   refine KAt.take 8 (Val.move rfl) rfl rfl rfl rfl (fun w hw => hw.drop (List.Sublist.cons _ (List.Sublist.cons _ (List.Sublist.cons _ (List.Sublist.cons _ (List.Sublist.cons _ (List.Sublist.cons _ (List.Sublist.cons _ (List.Sublist.cons_cons _ (List.Sublist.cons _ (List.Sublist.refl _))))))))))) (by decide +kernel) ?_
   refine KAt.take 9 (Val.extract rfl rfl) rfl rfl rfl rfl (fun w hw => hw.drop (List.Sublist.cons _ (List.Sublist.cons _ (List.Sublist.cons _ (List.Sublist.cons _ (List.Sublist.cons _ (List.Sublist.cons _ (List.Sublist.cons _ (List.Sublist.cons_cons _ (List.Sublist.cons _ (List.Sublist.refl _))))))))))) (by decide +kernel) ?_
   refine KAt.take 10 (Val.extract rfl rfl) rfl rfl rfl rfl (fun w hw => hw.drop (List.Sublist.cons _ (List.Sublist.cons _ (List.Sublist.cons _ (List.Sublist.cons _ (List.Sublist.cons _ (List.Sublist.cons _ (List.Sublist.cons _ (List.Sublist.cons_cons _ (List.Sublist.cons _ (List.Sublist.refl _))))))))))) (by decide +kernel) ?_
   refine KAt.take 11 (Val.assign rfl) rfl rfl rfl rfl (fun w hw => hw.drop (List.Sublist.cons _ (List.Sublist.cons _ (List.Sublist.cons _ (List.Sublist.cons _ (List.Sublist.cons _ (List.Sublist.cons _ (List.Sublist.cons _ (List.Sublist.cons_cons _ (List.Sublist.cons _ (List.Sublist.refl _))))))))))) (by decide +kernel) ?_
   refine KAt.take 12 (Val.assign rfl) rfl rfl rfl rfl (fun w hw => hw.drop (List.Sublist.cons _ (List.Sublist.cons _ (List.Sublist.cons _ (List.Sublist.cons _ (List.Sublist.cons _ (List.Sublist.cons _ (List.Sublist.cons _ (List.Sublist.cons_cons _ (List.Sublist.cons _ (List.Sublist.refl _))))))))))) (by decide +kernel) ?_
   refine KAt.done (by decide +kernel) ?_
   refine At.thenN ?_
   refine tR ?_
   refine tM rfl rfl ?_
   refine tM rfl rfl ?_
   refine At.val (Val.bin rfl rfl rfl) rfl rfl rfl ?_
   rw [beq_self_eq_true]
   refine tM rfl rfl ?_
   refine At.yes rfl rfl ?_
   refine tM rfl rfl ?_
   refine At.yes rfl rfl ?_
   refine tM rfl rfl ?_
   refine At.yes rfl rfl ?_
   refine At.callP (fun w hw => (by have h0 := sameSpL_p _ _ (restL li sp si sc sd L) (restL li sp si sc sd L) w (row_rd (hw.row (i := 2) rfl) (by decide)) (row_rd (hw.row (i := 0) rfl) (by decide)) (restL_le hL) (restL_le hL); rwa [decide_eq_true rfl] at h0)) Tryz.call19 rfl rfl ?_
   refine At.val (Val.pickT rfl rfl) rfl rfl rfl ?_
   refine tM rfl rfl ?_
   refine At.yes rfl rfl ?_
   refine tM rfl rfl ?_
   refine At.yes rfl rfl ?_
   refine tM rfl rfl ?_
   refine At.yes rfl rfl ?_
   refine At.callP (fun w hw => (by have h0 := sameBytes_p _ _ li li w (row_rd (hw.row (i := 5) rfl) (by decide)) (row_rd (hw.row (i := 6) rfl) (by decide)) hlil hlil; rwa [decide_eq_true rfl] at h0)) Tryz.call24 rfl rfl ?_
   refine At.val (Val.pickT rfl rfl) rfl rfl rfl ?_
   refine tM rfl rfl ?_
   refine At.yes rfl rfl ?_
   refine At.val (Val.field 5 rfl fo_64_2 rfl) rfl rfl rfl ?_
   refine At.yes rfl rfl ?_
   refine At.val (Val.load (i := 3) Tryz.isAgg35 rfl rfl rfl) rfl rfl rfl ?_
   refine At.yes rfl rfl ?_
   refine At.val (Val.field 8 rfl fo_38_5 rfl) rfl rfl rfl ?_
   refine At.yes rfl rfl ?_
   refine At.val (Val.load (i := 7) Tryz.isAgg35 rfl rfl rfl) rfl rfl rfl ?_
   refine At.yes rfl rfl ?_
   refine At.callP (fun w hw => (by have h0 := sameSpL_p _ _ L L w (row_rd (hw.row (i := 4) rfl) (by decide)) (hvS.keep hw hoS) hL hL; rwa [decide_eq_true rfl] at h0)) Tryz.call19 rfl rfl ?_
   refine At.val (Val.pickT rfl rfl) rfl rfl rfl ?_
   refine tA rfl rfl ?_
   refine tE ?_
   refine At.retC ?_
   refine At.ret1 (.inl rfl) rfl rfl rfl (fun w hw => ?_)
   exact ⟨rfl, hw.drop (List.singleton_sublist.2 (List.mem_of_getElem? (i := 8) rfl))⟩
  ·skip
   refine At.alloc Tryz.zeroValue64 rfl rfl (fun b37 => ?_)
   refine At.nil ?_
   refine KAt.go (fun w hw => hw.drop (List.Sublist.cons _ (List.Sublist.cons _ (List.Sublist.cons _ (List.Sublist.cons_cons _ (List.Sublist.cons _ (List.Sublist.refl _))))))) ?_
   refine KAt.only 4 rfl (by decide +kernel) ?_
   refine At.callN (fun w hw => copySp_n _ L w (hvS.keep hw hoS) hL) Tryz.call16 rfl rfl (fun v38 => ?_)
   refine At.rowIs (i := 0) rfl (fun A39 c40 hv => ?_)
   subst hv
   refine At.nil ?_
   refine KAt.go (fun w hw => hw.drop (List.Sublist.cons _ (List.Sublist.cons _ (List.Sublist.cons _ (List.Sublist.cons _ (List.Sublist.cons_cons _ (List.Sublist.cons _ (List.Sublist.refl _)))))))) ?_
   refine KAt.take 5 (Val.build (fun a ha => by simp only [List.map_toArray, List.map_cons, List.map_nil, ha.eval (x := (.tmp 25)) rfl, ha.eval (x := (.tmp 28)) rfl] <;> rfl) (bld_64_0_2 _ _ _ _ _ _ _ )) rfl rfl rfl rfl (fun w hw => hw.drop (List.Sublist.cons _ (List.Sublist.cons _ (List.Sublist.cons _ (List.Sublist.cons _ (List.Sublist.cons_cons _ (List.Sublist.cons _ (List.Sublist.refl _)))))))) (by decide +kernel) ?_
   refine KAt.only 7 rfl (by decide +kernel) ?_
   refine At.rowOne (i := 0) rfl (fun ho41 => ?_)
   refine At.storeAll (i := 1) Tryz.sizeOf64 rfl rfl rfl (by intro u hu; simp only [List.mem_cons, List.not_mem_nil, or_false] at hu; rcases hu with rfl | rfl | rfl | rfl | rfl | rfl <;> first | rfl | assumption) rfl rfl ?_
   simp only [sc0, scS]
   refine At.nil ?_
   refine KAt.go (fun w hw => hw.drop (List.Sublist.cons _ (List.Sublist.cons _ (List.Sublist.cons _ (List.Sublist.cons _ (List.Sublist.cons_cons _ (List.Sublist.cons _ (List.Sublist.refl _)))))))) ?_
   refine KAt.done (by decide +kernel) ?_
   refine At.thenN ?_
   refine tR ?_
   refine tM rfl rfl ?_
   refine At.val (Val.loadAll (i := 1) Tryz.isAgg64 Tryz.sizeOf64 rfl rfl rfl) rfl rfl rfl ?_
   refine At.callNT (g := (fun v => .tuple #[v, .int .i64 (restE li sp si sc sd L)])) (fun w hw => restore_n _ _ li sp si sc sd L w (ht.modS hw.mod hf) (row_rd (hw.row (i := 2) rfl) (by decide)) (row_rd (hw.row (i := 0) rfl) (by decide)) hlil hL) Tryz.call22 rfl rfl (fun v42 => ?_)
   refine tM rfl rfl ?_
   refine At.val (Val.extract rfl rfl) rfl rfl rfl ?_
   refine At.val (Val.extract rfl rfl) rfl rfl rfl ?_
   refine tA rfl rfl ?_
   refine tA rfl rfl ?_
   refine tE ?_
   refine At.seq ?_
   apply At.any (t := 13)
   · rfl
   refine KAt.pin (fun w hw => hw.drop (List.Sublist.cons _ (List.Sublist.cons _ (List.Sublist.cons _ (List.Sublist.cons _ (List.Sublist.cons _ (List.Sublist.cons_cons _ (List.Sublist.cons _ (List.Sublist.refl _))))))))) ?_
   refine KAt.take 0 (Val.move rfl) rfl rfl rfl rfl (fun w hw => hw.drop (List.Sublist.cons _ (List.Sublist.cons _ (List.Sublist.cons _ (List.Sublist.cons _ (List.Sublist.cons _ (List.Sublist.cons_cons _ (List.Sublist.cons _ (List.Sublist.refl _))))))))) (by decide +kernel) ?_
   refine KAt.take 1 (Val.field 4 rfl fo_38_4 rfl) rfl rfl rfl rfl (fun w hw => hw.drop (List.Sublist.cons _ (List.Sublist.cons _ (List.Sublist.cons _ (List.Sublist.cons _ (List.Sublist.cons _ (List.Sublist.cons_cons _ (List.Sublist.cons _ (List.Sublist.refl _))))))))) (by decide +kernel) ?_
   refine KAt.take 2 (Val.loadPart (i := 0) Tryz.isAgg34 Tryz.sizeOf34 rfl rfl rfl rfl) rfl rfl rfl rfl (fun w hw => hw.drop (List.Sublist.cons _ (List.Sublist.cons _ (List.Sublist.cons _ (List.Sublist.cons _ (List.Sublist.cons _ (List.Sublist.cons_cons _ (List.Sublist.cons _ (List.Sublist.refl _))))))))) (by decide +kernel) ?_
   refine KAt.take 3 (Val.field 8 rfl fo_38_5 rfl) rfl rfl rfl rfl (fun w hw => hw.drop (List.Sublist.cons _ (List.Sublist.cons _ (List.Sublist.cons _ (List.Sublist.cons _ (List.Sublist.cons _ (List.Sublist.cons_cons _ (List.Sublist.cons _ (List.Sublist.refl _))))))))) (by decide +kernel) ?_
   refine KAt.take 4 (Val.load (i := 0) Tryz.isAgg35 rfl rfl rfl) rfl rfl rfl rfl (fun w hw => hw.drop (List.Sublist.cons _ (List.Sublist.cons _ (List.Sublist.cons _ (List.Sublist.cons _ (List.Sublist.cons _ (List.Sublist.cons_cons _ (List.Sublist.cons _ (List.Sublist.refl _))))))))) (by decide +kernel) ?_
   refine KAt.only 5 rfl (by decide +kernel) ?_
   refine At.callN (fun w hw => copySp_n _ L w (hvS.keep hw hoS) hL) Tryz.call16 rfl rfl (fun v43 => ?_)
   refine At.rowIs (i := 0) rfl (fun A44 c45 hv => ?_)
   subst hv
   refine At.nil ?_
   refine KAt.go (fun w hw => hw.drop (List.Sublist.cons _ (List.Sublist.cons _ (List.Sublist.cons _ (List.Sublist.cons _ (List.Sublist.cons _ (List.Sublist.cons _ (List.Sublist.cons_cons _ (List.Sublist.cons _ (List.Sublist.refl _)))))))))) ?_
   refine KAt.take 6 (Val.build (fun a ha => by simp only [List.map_toArray, List.map_cons, List.map_nil, ha.eval (x := (.tmp 39)) rfl, ha.eval (x := (.tmp 42)) rfl] <;> rfl) (bld_64_0_2 _ _ _ _ _ _ _ )) rfl rfl rfl rfl (fun w hw => hw.drop (List.Sublist.cons _ (List.Sublist.cons _ (List.Sublist.cons _ (List.Sublist.cons _ (List.Sublist.cons _ (List.Sublist.cons _ (List.Sublist.cons_cons _ (List.Sublist.cons _ (List.Sublist.refl _)))))))))) (by decide +kernel) ?_
   refine KAt.only 7 rfl (by decide +kernel) ?_
   refine At.callNT (g := (fun v => .tuple #[v, .int .i64 (restE li sp si sc sd L)])) (fun w hw => restore13_n _ _ li sp si sc sd L w (row_rd (hw.row (i := 5) rfl) (by decide)) (row_rd (hw.row (i := 0) rfl) (by decide)) hlil hL hsp) Tryz.call23 rfl rfl (fun v46 => ?_)
   refine At.nil ?_
   refine KAt.go (fun w hw => hw.drop (List.Sublist.cons _ (List.Sublist.cons _ (List.Sublist.cons _ (List.Sublist.cons _ (List.Sublist.cons _ (List.Sublist.cons _ (List.Sublist.cons _ (List.Sublist.cons_cons _ (List.Sublist.cons _ (List.Sublist.refl _))))))))))) ?_
   refine KAt.take 8 (Val.move rfl) rfl rfl rfl rfl (fun w hw => hw.drop (List.Sublist.cons _ (List.Sublist.cons _ (List.Sublist.cons _ (List.Sublist.cons _ (List.Sublist.cons _ (List.Sublist.cons _ (List.Sublist.cons _ (List.Sublist.cons_cons _ (List.Sublist.cons _ (List.Sublist.refl _))))))))))) (by decide +kernel) ?_
   refine KAt.take 9 (Val.extract rfl rfl) rfl rfl rfl rfl (fun w hw => hw.drop (List.Sublist.cons _ (List.Sublist.cons _ (List.Sublist.cons _ (List.Sublist.cons _ (List.Sublist.cons _ (List.Sublist.cons _ (List.Sublist.cons _ (List.Sublist.cons_cons _ (List.Sublist.cons _ (List.Sublist.refl _))))))))))) (by decide +kernel) ?_
   refine KAt.take 10 (Val.extract rfl rfl) rfl rfl rfl rfl (fun w hw => hw.drop (List.Sublist.cons _ (List.Sublist.cons _ (List.Sublist.cons _ (List.Sublist.cons _ (List.Sublist.cons _ (List.Sublist.cons _ (List.Sublist.cons _ (List.Sublist.cons_cons _ (List.Sublist.cons _ (List.Sublist.refl _))))))))))) (by decide +kernel) ?_
   refine KAt.take 11 (Val.assign rfl) rfl rfl rfl rfl (fun w hw => hw.drop (List.Sublist.cons _ (List.Sublist.cons _ (List.Sublist.cons _ (List.Sublist.cons _ (List.Sublist.cons _ (List.Sublist.cons _ (List.Sublist.cons _ (List.Sublist.cons_cons _ (List.Sublist.cons _ (List.Sublist.refl _))))))))))) (by decide +kernel) ?_
   refine KAt.take 12 (Val.assign rfl) rfl rfl rfl rfl (fun w hw => hw.drop (List.Sublist.cons _ (List.Sublist.cons _ (List.Sublist.cons _ (List.Sublist.cons _ (List.Sublist.cons _ (List.Sublist.cons _ (List.Sublist.cons _ (List.Sublist.cons_cons _ (List.Sublist.cons _ (List.Sublist.refl _))))))))))) (by decide +kernel) ?_
   refine KAt.done (by decide +kernel) ?_
   refine At.thenN ?_
   refine tR ?_
   refine tM rfl rfl ?_
   refine tM rfl rfl ?_
   refine At.val (Val.bin rfl rfl rfl) rfl rfl rfl ?_
   rw [beq_self_eq_true]
   refine tM rfl rfl ?_
   refine At.yes rfl rfl ?_
   refine tM rfl rfl ?_
   refine At.yes rfl rfl ?_
   refine tM rfl rfl ?_
   refine At.yes rfl rfl ?_
   refine At.callP (fun w hw => (by have h0 := sameSpL_p _ _ (restL li sp si sc sd L) (restL li sp si sc sd L) w (row_rd (hw.row (i := 2) rfl) (by decide)) (row_rd (hw.row (i := 0) rfl) (by decide)) (restL_le hL) (restL_le hL); rwa [decide_eq_true rfl] at h0)) Tryz.call19 rfl rfl ?_
   refine At.val (Val.pickT rfl rfl) rfl rfl rfl ?_
   refine tM rfl rfl ?_
   refine At.yes rfl rfl ?_
   refine tM rfl rfl ?_
   refine At.yes rfl rfl ?_
   refine tM rfl rfl ?_
   refine At.yes rfl rfl ?_
   refine At.callP (fun w hw => (by have h0 := sameBytes_p _ _ li li w (row_rd (hw.row (i := 5) rfl) (by decide)) (row_rd (hw.row (i := 6) rfl) (by decide)) hlil hlil; rwa [decide_eq_true rfl] at h0)) Tryz.call24 rfl rfl ?_
   refine At.val (Val.pickT rfl rfl) rfl rfl rfl ?_
   refine tM rfl rfl ?_
   refine At.yes rfl rfl ?_
   refine At.val (Val.field 5 rfl fo_64_2 rfl) rfl rfl rfl ?_
   refine At.yes rfl rfl ?_
   refine At.val (Val.load (i := 4) Tryz.isAgg35 rfl rfl rfl) rfl rfl rfl ?_
   refine At.yes rfl rfl ?_
   refine At.val (Val.field 8 rfl fo_38_5 rfl) rfl rfl rfl ?_
   refine At.yes rfl rfl ?_
   refine At.val (Val.load (i := 7) Tryz.isAgg35 rfl rfl rfl) rfl rfl rfl ?_
   refine At.yes rfl rfl ?_
   refine At.callP (fun w hw => (by have h0 := sameSpL_p _ _ L L w (row_rd (hw.row (i := 3) rfl) (by decide)) (hvS.keep hw hoS) hL hL; rwa [decide_eq_true rfl] at h0)) Tryz.call19 rfl rfl ?_
   refine At.val (Val.pickT rfl rfl) rfl rfl rfl ?_
   refine tA rfl rfl ?_
   refine tE ?_
   refine At.retC ?_
   refine At.ret1 (.inl rfl) rfl rfl rfl (fun w hw => ?_)
   exact ⟨rfl, hw.drop (List.singleton_sublist.2 (List.mem_of_getElem? (i := 8) rfl))⟩
end Go.Proofs.YthhkbbodhghmcaaGreatDoor
set_option linter.unusedVariables false
set_option linter.unusedSimpArgs false
namespace Go.Proofs.YthhkbbodhghmcaaGreatDoor
open Go Go.Wk
theorem num_shl {l : List UInt8} {a b : Nat} {c : UInt8} (h : l[a + b]? = some c) (hb : b < 8) :
    IntKind.u64.wrap (((num l a b : Nat) : Int) + IntKind.u64.wrap ((c.toNat : Int) * 2 ^ min (8 * (b : Int)).toNat IntKind.u64.bits)) = ((num l a (b + 1) : Nat) : Int) := by
  have e8 : (8 * (b : Int)).toNat = 8 * b := by omega
  have hp : 256 ^ b = 2 ^ (8 * b) := by rw [Nat.pow_mul]
  have hle : 256 ^ (b + 1) ≤ 18446744073709551616 := by
    rw [show (18446744073709551616 : Nat) = 256 ^ 8 from rfl]; exact Nat.pow_le_pow_right (by decide) (by omega)
  have h2 : num l a (b + 1) < 256 ^ (b + 1) := num_lt a (b + 1)
  have h3 := num_succ h
  have e : IntKind.u64.wrap ((c.toNat : Int) * 2 ^ min (8 * (b : Int)).toNat IntKind.u64.bits) = ((256 ^ b * c.toNat : Nat) : Int) := by
    rw [e8, show min (8 * b) IntKind.u64.bits = 8 * b from Nat.min_eq_left (by show 8 * b ≤ 64; omega)]
    rw [show (c.toNat : Int) * 2 ^ (8 * b) = ((256 ^ b * c.toNat : Nat) : Int) from by rw [hp]; push_cast; rw [Int.mul_comm]]
    exact wrap_u64 (by omega) (by omega)
  rw [e, h3, show ((num l a b : Nat) : Int) + ((256 ^ b * c.toNat : Nat) : Int) = ((num l a b + 256 ^ b * c.toNat : Nat) : Int) from by omega]
  exact wrap_u64 (by omega) (by omega)
/-- The words of a line when i bytes have been laid. -/
def wdP (l : List UInt8) (i K : Nat) : BitVec 64 := BitVec.ofNat 64 (num l (8 * K) (min 8 (i - 8 * K)))
theorem num_lt8 (l : List UInt8) (a : Nat) {n : Nat} (h : n ≤ 8) : num l a n < 18446744073709551616 := Nat.lt_of_lt_of_le (num_lt a n) (by rw [show (18446744073709551616 : Nat) = 256 ^ 8 from rfl]; exact Nat.pow_le_pow_right (by decide) h)
theorem wdP_val (l : List UInt8) (i K : Nat) : Value.int .u64 ((num l (8 * K) (min 8 (i - 8 * K)) : Nat) : Int) = b64 (wdP l i K) := by
  unfold b64 wdP; rw [BitVec.toNat_ofNat, Nat.mod_eq_of_lt (num_lt8 l _ (by omega))]
def LnOk (l : List UInt8) (M i : Nat) (Q : List Lq) : Prop := Q.length = M ∧ ∀ (k : Nat) (q : Lq), Q[k]? = some q → q.1.puts = [] ∧ q.1.fl = [] ∧ q.1.first.length = 8 ∧ ∀ j, j < 8 → q.1.first[j]? = some (wdP l i (8 * k + j))
theorem LnOk.first8 {l : List UInt8} {M i : Nat} {Q : List Lq} (h : LnOk l M i Q) : First8 Q := fun x hx => by
  obtain ⟨k, hk⟩ := List.getElem?_of_mem hx
  exact (h.2 k x hk).2.2.1
theorem lnOk_step {l : List UInt8} {M k j b : Nat} {Q : List Lq} {q : Lq} (h : LnOk l M (64 * k + 8 * j + b) Q) (hj : j < 8) (hb : b < 8) (hq : Q[k]? = some q) : LnOk l M (64 * k + 8 * j + b + 1) (Q.set k ({ q.1 with first := q.1.first.set j (wdP l (64 * k + 8 * j + b + 1) (8 * k + j)) }, q.2.1, q.2.2)) := by
  refine ⟨by rw [List.length_set]; exact h.1, fun k' q' hq' => ?_⟩
  by_cases e : k = k'
  · subst e
    rw [List.getElem?_set_self (List.getElem?_eq_some_iff.1 hq).1] at hq'
    obtain rfl := Option.some.inj hq'
    obtain ⟨h1, h2, h3, h4⟩ := h.2 k q hq
    refine ⟨h1, h2, by simpa using h3, fun j' hj' => ?_⟩
    by_cases ej : j = j'
    · subst ej; exact List.getElem?_set_self (by omega)
    · rw [List.getElem?_set_ne ej, h4 j' hj']
      unfold wdP
      rw [show min 8 (64 * k + 8 * j + b - 8 * (8 * k + j')) = min 8 (64 * k + 8 * j + b + 1 - 8 * (8 * k + j')) by omega]
  · rw [List.getElem?_set_ne e] at hq'
    obtain ⟨h1, h2, h3, h4⟩ := h.2 k' q' hq'
    refine ⟨h1, h2, h3, fun j' hj' => ?_⟩
    rw [h4 j' hj']
    unfold wdP
    rw [show min 8 (64 * k + 8 * j + b - 8 * (8 * k' + j')) = min 8 (64 * k + 8 * j + b + 1 - 8 * (8 * k' + j')) by omega]
theorem lnOk_start {l : List UInt8} {M : Nat} {Q : List Lq} (h : Q.map Prod.fst = (zeroR M).ls) : LnOk l M 0 Q := by
  have hl : Q.length = M := by have := congrArg List.length h; rw [List.length_map] at this; simpa [zeroR] using this
  refine ⟨hl, fun k q hq => ?_⟩
  have h1 := line_at h hq
  have hz : q.1 = zL := (List.mem_replicate.1 (List.mem_of_getElem? h1)).2
  rw [hz]
  refine ⟨rfl, rfl, rfl, fun j hj => ?_⟩
  unfold zL wdP
  simp only
  rw [List.getElem?_replicate, if_pos hj, show min 8 (0 - 8 * (8 * k + j)) = 0 by omega, num_zero]; rfl
theorem lnOk_end {l : List UInt8} {M : Nat} {Q : List Lq} (h : LnOk l M (64 * M) Q) : Q.map Prod.fst = (loadR l M).ls := by
  apply List.ext_getElem?
  intro k
  show _ = ((List.range M).map (lineR l))[k]?
  rw [List.getElem?_map, List.getElem?_map]
  rcases Nat.lt_or_ge k M with hk | hk
  · obtain ⟨q, hq⟩ : ∃ q, Q[k]? = some q := ⟨_, List.getElem?_eq_getElem (by rw [h.1]; exact hk)⟩
    rw [hq, List.getElem?_range hk]
    obtain ⟨h1, h2, h3, h4⟩ := h.2 k q hq
    refine congrArg some ?_
    obtain ⟨⟨f, pu, fl⟩, q2⟩ := q
    simp only at h1 h2 h3 h4
    subst h1 h2
    show Rl.mk f [] [] = lineR l k
    unfold lineR
    congr 1
    apply List.ext_getElem?
    intro j
    rw [List.getElem?_map]
    rcases Nat.lt_or_ge j 8 with hj | hj
    · rw [h4 j hj, List.getElem?_range hj]
      unfold wdP
      rw [show min 8 (64 * M - 8 * (8 * k + j)) = 8 by omega]; rfl
    · rw [List.getElem?_eq_none (by omega), List.getElem?_eq_none (by rw [List.length_range]; exact hj)]; rfl
  · rw [List.getElem?_eq_none (by rw [h.1]; exact hk), List.getElem?_eq_none (by rw [List.length_range]; exact hk)]; rfl
theorem loadR_good {l : List UInt8} {M : Nat} (h0 : 0 < M) (h1 : M ≤ 8192) : Rgood (loadR l M) := by
  refine ⟨by simpa [loadR] using h0, by simpa [loadR] using h1, Nat.zero_le _, Nat.le_refl _, ⟨by simp [loadR], by simp [loadR]⟩, fun m hm => ?_⟩
  obtain ⟨k, _, rfl⟩ := List.mem_map.1 hm
  exact ⟨by simp [lineR], Nat.le_refl _, Nat.le_refl _, by simp [lineR], by simp [lineR]⟩
theorem wdP_step {l : List UInt8} {k j b : Nat} {c : UInt8} (h : l[8 * (8 * k + j) + b]? = some c) (hb : b < 8) :
    Value.int .u64 (IntKind.u64.wrap (((wdP l (64 * k + 8 * j + b) (8 * k + j)).toNat : Int) + IntKind.u64.wrap ((c.toNat : Int) * 2 ^ min (8 * (b : Int)).toNat IntKind.u64.bits))) = b64 (wdP l (64 * k + 8 * j + b + 1) (8 * k + j)) := by
  have e1 : (wdP l (64 * k + 8 * j + b) (8 * k + j)).toNat = num l (8 * (8 * k + j)) b := by
    unfold wdP; rw [BitVec.toNat_ofNat, show min 8 (64 * k + 8 * j + b - 8 * (8 * k + j)) = b by omega, Nat.mod_eq_of_lt (num_lt8 l _ (by omega))]
  rw [e1, num_shl h hb, ← wdP_val, show min 8 (64 * k + 8 * j + b + 1 - 8 * (8 * k + j)) = b + 1 by omega]
theorem lI_keep {Q : List Lq} {k : Nat} {q : Lq} {f : List (BitVec 64)} (hq : Q[k]? = some q) : lI (Q.set k ({ q.1 with first := f }, q.2.1, q.2.2)) = lI Q := lI_first hq rfl rfl rfl
theorem rload_d (v : Value) (l : List UInt8) (M : Nat) (w : World) (hv : RdB w v l) (hn : isSizeB (l.length : Int) = true) (hM : l.length = 64 * M) :
    NewRDev Tryz.prog 36 [v] (loadR l M) w := by
 refine enter (feet []) [] Tryz.func36 rfl Tryz.ntmps36 rfl ⟨by simp, by simp, by simp, Mod.refl _ _⟩ ?_
 have hnn := hn
 unfold isSizeB at hnn
 rw [decide_eq_true_eq] at hnn
 simp only [envOf]
 refine tR ?_
 refine tA rfl rfl ?_
 refine tA rfl rfl ?_
 refine tE ?_
 refine tR ?_
 refine tM rfl rfl ?_
 refine At.val (Val.lenRd hv Tryz.underlying59 rfl) rfl rfl rfl ?_
 refine At.callNRD (fun w hw => rnew_d _ M w hn (by omega)) Tryz.call8 rfl rfl (fun p1 y2 => ?_)
 refine tM rfl rfl ?_
 refine At.val (Val.extract rfl rfl) rfl rfl rfl ?_
 refine At.val (Val.extract rfl rfl) rfl rfl rfl ?_
 refine tA rfl rfl ?_
 refine tA rfl rfl ?_
 refine tE ?_
 refine At.seq ?_
 refine tR ?_
 refine tM rfl rfl ?_
 refine At.val (Val.bin rfl rfl rfl) rfl rfl rfl ?_
 refine tE ?_
 refine At.condF rfl ?_
 refine At.skipC ?_
 refine At.thenN ?_
 refine At.seq ?_
 refine At.seq ?_
 refine At.openS 0 rfl ?_
 simp only [rdevL, List.cons_append, List.nil_append, ec0, ecS]
 refine At.fact 3 rfl (fun hf => ?_)
 obtain ⟨hQ1, hg1⟩ := hf
 refine At.region ?_
 refine tA rfl rfl ?_
 refine tE ?_
 refine At.block ?_
 skip
 refine At.loop (σ := Nat × List Lq) (fun s => s.1 ≤ l.length ∧ LnOk l M s.1 s.2) (fun s => [(0, v), (4, .pointer (some ⟨p1, 0, none⟩)), (6, .int .i64 (s.1 : Int))]) (fun s => [blk p1 50 ([y2.vl, .int .i64 ((zeroR M).fenced : Int), .int .i64 ((zeroR M).now : Int), .int .i64 (zeroR M).left]), rowR y2.vl tLn 10 s.2.length (lC s.2), fam (lI s.2), factR (y2.Q.map Prod.fst = (zeroR M).ls ∧ Rgood (zeroR M))]) (fun s => l.length - s.1) (0, y2.Q) ⟨Nat.zero_le _, lnOk_start hQ1⟩ (Sub.cons rfl (Sub.cons rfl (Sub.cons rfl Sub.nil))) (List.Perm.refl _) ?_
 intro s hs
 obtain ⟨i, Q⟩ := s
 dsimp only at hs ⊢
 obtain ⟨hi, hok⟩ := hs
 have hQM := hok.1
 refine At.seq ?_
 refine tR ?_
 refine tM rfl rfl ?_
 refine tM rfl rfl ?_
 refine At.val (Val.lenRd hv Tryz.underlying59 rfl) rfl rfl rfl ?_
 refine At.val (Val.bin rfl rfl rfl) rfl rfl rfl ?_
 refine tE ?_
 refine At.cond rfl (fun h3 => ?_) (fun h3 => ?_)
 ·skip
  try simp only [hasB, isSizeB, Bool.not_eq_true', Bool.not_eq_false', bne_iff_ne, ne_eq, bne_eq_false_iff_eq, beq_iff_eq, beq_eq_false_iff_ne, decide_eq_true_eq, decide_eq_false_iff_not, gt_iff_lt, ge_iff_le] at h3
  obtain ⟨k, j, b, hj, hb, rfl⟩ : ∃ k j b, j < 8 ∧ b < 8 ∧ i = 64 * k + 8 * j + b := ⟨i / 64, i / 8 % 8, i % 8, by omega, by omega, by omega⟩
  have hkM : k < M := by omega
  obtain ⟨q, hq⟩ : ∃ q, Q[k]? = some q := ⟨_, List.getElem?_eq_getElem (by omega)⟩
  have h81 := hok.first8
  have hf0 := (hok.2 k q hq).2.2.2 j hj
  have hmin : min 8 (64 * k + 8 * j + b - 8 * (8 * k + j)) = b := by omega
  refine At.skipC ?_
  refine At.thenN ?_
  refine At.seq ?_
  refine At.block ?_
  refine tR ?_
  refine tM rfl rfl ?_
  refine At.val (Val.quoI rfl rfl (by omega) (by omega) (by decide)) rfl rfl rfl ?_
  rw [show ((64 * k + 8 * j + b : Nat) : Int) / 8 = ((8 * k + j : Nat) : Int) from by omega]
  refine At.val (Val.remI rfl rfl (by omega) (by decide)) rfl rfl rfl ?_
  rw [show ((8 * k + j : Nat) : Int) % 8 = (j : Int) from by omega]
  refine tA rfl rfl ?_
  refine tE ?_
  refine At.tail 25 rfl (by decide +kernel) ?_
  simp only [List.take_succ_cons, List.take_zero, List.drop_succ_cons, List.drop_zero]
  refine qM rfl rfl ?_
  refine QAt.val (Val.nilCheck rfl) rfl rfl rfl ?_
  refine QAt.val (Val.field 0 rfl fo_50_0 rfl) rfl rfl rfl ?_
  refine QAt.val (Val.load (i := 0) Tryz.isAgg48 rfl rfl rfl) rfl rfl rfl ?_
  refine qM rfl rfl ?_
  refine QAt.val (Val.quoI rfl rfl (by omega) (by omega) (by decide)) rfl rfl rfl ?_
  rw [show ((64 * k + 8 * j + b : Nat) : Int) / 64 = (k : Int) from by omega]
  refine qM rfl rfl ?_
  refine QAt.val (Val.indexRow (i := 1) (k * 10) (by omega) Tryz.underlying48 Tryz.sizeOf118 rfl rfl rfl (by omega) (by omega)) rfl rfl rfl ?_
  refine QAt.val (Val.field ((k * 10 + 0)) rfl fo_118_0 rfl) rfl rfl rfl ?_
  refine QAt.val (Val.indexArr (k * 10 + j) (by omega) Tryz.underlying115 Tryz.sizeOf32 rfl rfl (by omega) (by omega)) rfl rfl rfl ?_
  refine QAt.val (Val.loadRow (i := 1) Tryz.isAgg32 rfl rfl (lC_first h81 hq hf0)) rfl rfl rfl ?_
  refine qM rfl rfl ?_
  refine qM rfl rfl ?_
  refine QAt.idxB hv Tryz.underlying59 Tryz.sizeOf5 rfl rfl (by omega) (by omega) rfl rfl (fun b4 o5 q6 hq7 hl8 hc9 => ?_)
  refine QAt.val (Val.loadOld Tryz.isAgg5 rfl hc9 (fun h => by simp [feet] at h)) rfl rfl rfl ?_
  refine QAt.val (Val.toU Tryz.underlying5 Tryz.underlying32 rfl (by omega) (by omega)) rfl rfl rfl ?_
  refine qM rfl rfl ?_
  refine QAt.val (Val.remI rfl rfl (by omega) (by decide)) rfl rfl rfl ?_
  rw [show ((64 * k + 8 * j + b : Nat) : Int) % 8 = (b : Int) from by omega]
  first | refine QAt.val (Val.mulI rfl rfl (by omega) (by omega)) rfl rfl rfl ?_ | refine QAt.val (Val.bin rfl rfl rfl) rfl rfl rfl ?_
  first | refine QAt.val (Val.toU Tryz.underlying3 Tryz.underlying123 rfl (by omega) (by omega)) rfl rfl rfl ?_ | refine QAt.val (Val.conv Tryz.underlying3 Tryz.underlying123 rfl) rfl rfl rfl ?_
  refine QAt.val (Val.shl rfl rfl (by omega)) rfl rfl rfl ?_
  have hby := hq7
  rw [Int.toNat_natCast, show 64 * k + 8 * j + b = 8 * (8 * k + j) + b by omega] at hby
  refine QAt.val (Val.bin rfl rfl (congrArg some (wdP_step hby hb))) rfl rfl rfl ?_
  refine QAt.val (Val.indexRow (i := 1) (k * 10) (by omega) Tryz.underlying48 Tryz.sizeOf118 rfl rfl rfl (by omega) (by omega)) rfl rfl rfl ?_
  refine QAt.val (Val.field ((k * 10 + 0)) rfl fo_118_0 rfl) rfl rfl rfl ?_
  refine QAt.val (Val.indexArr (k * 10 + j) (by omega) Tryz.underlying115 Tryz.sizeOf32 rfl rfl (by omega) (by omega)) rfl rfl rfl ?_
  refine QAt.fin ?_
  refine At.storeRow (i := 1) Tryz.sizeOf32 rfl rfl rfl rfl (by rw [lC_length h81]; omega) ?_
  simp only [sc0, scS]
  rw [lC_setFirst h81 hq hj]
  refine At.nil ?_
  refine At.blkN ?_
  refine At.thenN ?_
  refine At.region ?_
  refine tM rfl rfl ?_
  first | refine At.val (Val.addI rfl rfl (by omega) (by omega)) rfl rfl rfl ?_ | refine At.val (Val.bin rfl rfl rfl) rfl rfl rfl ?_
  refine tA rfl rfl ?_
  refine tE ?_
  exact At.again (64 * k + 8 * j + b + 1, _) ⟨(show 64 * k + 8 * j + b + 1 ≤ _ by omega), lnOk_step hok hj hb hq⟩ (by dsimp only; omega) (Sub.cons rfl (Sub.cons rfl (Sub.cons (congrArg (fun z => some (Value.int IntKind.i64 z)) (by omega)) Sub.nil))) (by dsimp only; rw [lI_keep hq, List.length_set])
 ·skip
  try simp only [hasB, isSizeB, Bool.not_eq_true', Bool.not_eq_false', bne_iff_ne, ne_eq, bne_eq_false_iff_eq, beq_iff_eq, beq_eq_false_iff_ne, decide_eq_true_eq, decide_eq_false_iff_not, gt_iff_lt, ge_iff_le] at h3
  obtain rfl : i = 64 * M := by omega
  refine At.exitC ?_
  refine At.thenX ?_
  refine At.thenX ?_
  refine At.blkX ?_
  refine At.thenN ?_
  refine tR ?_
  refine tM rfl rfl ?_
  refine tA rfl rfl ?_
  refine tA rfl rfl ?_
  refine tE ?_
  refine At.retC ?_
  refine At.ret2 (.inl rfl) rfl rfl rfl rfl (fun w hw => ?_)
  exact ⟨p1, ⟨y2.vl, Q⟩, rfl, toRDev1 (lnOk_end hok) (loadR_good (by omega) (by omega)) hw rfl rfl rfl⟩
end Go.Proofs.YthhkbbodhghmcaaGreatDoor
set_option linter.unusedVariables false
set_option linter.unusedSimpArgs false
namespace Go.Proofs.YthhkbbodhghmcaaGreatDoor
open Go Go.Wk
theorem Rep.ofStar {a r r' : Res} {w w' : World} {X : List Res} (h : (star [a, r]).holds w) (h' : Rep w (feet [r]) (X ++ [r']) w') : Rep w (feet [star [a, r]]) (X ++ [star [a, r']]) w' := by
  have h1 : Rep w (feet [star [a, r]]) ([r] ++ [a]) w := (Rep.of_star (r := star [a, r]) h).perm (List.Perm.swap ..)
  have h2 : Rep w (feet [star [a, r]]) ((X ++ [r']) ++ [a]) w' := h1.frame h'
  have h3 : Rep w (feet [star [a, r]]) ([a, r'] ++ X) w' := h2.perm (by
    have e1 : ((X ++ [r']) ++ [a]).Perm (a :: (X ++ [r'])) := List.perm_append_comm
    exact e1.trans ((List.perm_append_comm (l₁ := X) (l₂ := [r'])).cons a))
  exact (h3.shutS).perm (List.perm_append_comm (l₁ := [star [a, r']]) (l₂ := X))
theorem upd_in {P : Program} {f : FuncId} {vs : List Value} {v : Value} {a r : Res} {w : World} (hd : (star [a, r]).holds w) (h : Upd P f vs r v r w) : Upd P f vs (star [a, r]) v (star [a, r]) w := h.mono fun e w' ⟨he, hr⟩ => ⟨he, Rep.ofStar (X := []) hd hr⟩
theorem feet_in {a r : Res} : ∀ b, feet [r] b → feet [star [a, r]] b := fun b ⟨q, hq, hb⟩ => by
  rw [List.mem_singleton.1 hq] at hb
  exact ⟨star [a, r], by simp, r, by simp, hb⟩
theorem star_r {a r : Res} {w : World} (h : (star [a, r]).holds w) : r.holds w := h.2 r (by simp)
theorem star_l {a r : Res} {w : World} (h : (star [a, r]).holds w) : a.holds w := h.2 a (by simp)
structure OpT where
  kd : Int
  ad : Int
  n : Int
  x : BitVec 64
  sp : Int
  si : Int
  sc : Int
  sd : Int
  vS : Value
  L : List (Int × Int)
  vL : Value
  cs : List Int
def opC (o : OpT) : List Value := [.int .i64 o.kd, .int .i64 o.ad, .int .i64 o.n, b64 o.x, .int .i64 o.sp, .int .i64 o.si, .int .i64 o.sc, .int .i64 o.sd, o.vS, o.vL]
def oC (L : List OpT) : List Value := L.flatMap opC
theorem oC_length (L : List OpT) : (oC L).length = L.length * 10 := by induction L with
  | nil => rfl
  | cons c a ih => simp only [oC, List.flatMap_cons, List.length_append, List.length_cons] at *; rw [ih]; simp [opC]; omega
theorem oC_at : ∀ {L : List OpT} {j i : Nat} {o : OpT} {u : Value}, L[j]? = some o → (opC o)[i]? = some u → (oC L)[j * 10 + i]? = some u
  | d :: L, 0, i, o, u, h, hu => by
    obtain rfl : d = o := by simpa using h
    have hi : i < 10 := (List.getElem?_eq_some_iff.1 hu).1
    show (opC d ++ oC L)[0 * 10 + i]? = some u
    rw [Nat.zero_mul, Nat.zero_add, List.getElem?_append_left hi]; exact hu
  | d :: L, j + 1, i, o, u, h, hu => by
    have := oC_at (L := L) (j := j) (by simpa using h) hu
    show (opC d ++ oC L)[(j + 1) * 10 + i]? = some u
    rw [List.getElem?_append_right (by show 10 ≤ _; omega), show (opC d).length = 10 from rfl, show (j + 1) * 10 + i - 10 = j * 10 + i by omega]; exact this
structure OpOk (w : World) (o : OpT) : Prop where
  s : RdS w o.vS o.L
  l : RdI w o.vL o.cs
  sl : o.L.length ≤ 8796093022144
  cl : o.cs.length ≤ 17592186044416
  n : o.n ≤ 9223372036854775807
  p : -9223372036854775808 ≤ o.sp ∧ o.sp ≤ 9223372036854775807
def RdO (w : World) (v : Value) (L : List OpT) : Prop := Rd w v 10 L.length (oC L) ∧ ∀ o ∈ L, OpOk w o
theorem RdO.mod {w w' : World} {v : Value} {L : List OpT} (h : RdO w v L) (hm : Mod (fun _ => False) w w') : RdO w' v L := ⟨h.1.mod hm, fun o ho => by obtain ⟨a, b, c, d, e, f⟩ := h.2 o ho; exact ⟨a.mod hm, b.mod hm, c, d, e, f⟩⟩
theorem rd_one1 {w : World} {v : Value} {sz n : Nat} {xs : List Value} (h : Rd w v sz n xs) : v.oneCell' = true := by obtain ⟨A, c, rfl, _⟩ := h; cases A <;> rfl
theorem pq_news {y : Pq} {w : World} (h : (pqR y).holds w) (hs : y.σ.steps ≤ 1099511627775) : ∀ u ∈ y.σ.ws, u.news.length ≤ 1099511627775 := fun u hu => by
  have := ((Dev.good (star_l h)).word u hu).2; omega
theorem moves_k (p q : Nat) (γ : Gh) (δ : Rg) (σ : Ds) (ρ : Rs) (kd ad n sp si sc sd : Int) (x : BitVec 64) (vS vL : Value) (L : List (Int × Int)) (cs : List Int) (w : World) (hsim : Sim σ ρ) (hvL : RdI w vL cs) (hoL : Off vL (cs.map (Value.int .i64)) (feet [star [Dev p γ σ, RDev q δ ρ]])) (hn : n ≤ 9223372036854775807) (h64 : 64 ≤ σ.ws.length ∧ σ.ws.length % 64 = 0) (hst : σ.steps + 140000 ≤ 1099511627775) (hd : (star [Dev p γ σ, RDev q δ ρ]).holds w) :
    PairY Tryz.prog 11 [.pointer (some ⟨p, 0, none⟩), .pointer (some ⟨q, 0, none⟩), .agg #[.int .i64 kd, .int .i64 ad, .int .i64 n, b64 x, .int .i64 sp, .int .i64 si, .int .i64 sc, .int .i64 sd, vS, vL]] (star [Dev p γ σ, RDev q δ ρ]) (fun y => .tuple #[.pointer (some ⟨y.p, 0, none⟩), .pointer (some ⟨y.q, 0, none⟩), .bool true]) (PqOk σ 140000) w := by
 refine enter (feet [star [Dev p γ σ, RDev q δ ρ]]) [Dev p γ σ, RDev q δ ρ] Tryz.func11 rfl Tryz.ntmps11 rfl (Rep.of_star (r := star [Dev p γ σ, RDev q δ ρ]) hd) ?_
 have hgd := Dev.good (hd.2 (Dev p γ σ) (by simp))
 have hwl := hgd.len
 have hsl := hsim.len
 have hnw : ∀ u ∈ σ.ws, u.news.length ≤ 1099511627775 := fun u hu => by have := (hgd.word u hu).2; omega
 simp only [envOf]
 refine tR ?_
 refine At.box rfl rfl rfl (fun b1 => ?_)
 refine tA rfl rfl ?_
 refine tA rfl rfl ?_
 refine tA rfl rfl ?_
 refine tE ?_
 refine At.seq ?_
 refine tR ?_
 refine At.val (Val.field 0 rfl fo_38_0 rfl) rfl rfl rfl ?_
 refine At.val (Val.load (i := 0) Tryz.isAgg3 rfl rfl rfl) rfl rfl rfl ?_
 refine tE ?_
 refine At.block ?_
 refine tR ?_
 refine At.val (Val.bin rfl rfl rfl) rfl rfl rfl ?_
 refine tA rfl rfl ?_
 refine tE ?_
 refine At.cond rfl (fun h2 => ?_) (fun h2 => ?_)
 ·skip
  try simp only [hasB, isSizeB, Bool.not_eq_true', Bool.not_eq_false', bne_iff_ne, ne_eq, bne_eq_false_iff_eq, beq_iff_eq, beq_eq_false_iff_ne, decide_eq_true_eq, decide_eq_false_iff_not, gt_iff_lt, ge_iff_le] at h2
  refine tR ?_
  refine tM rfl rfl ?_
  refine At.val (Val.field 1 rfl fo_38_1 rfl) rfl rfl rfl ?_
  refine At.val (Val.load (i := 0) Tryz.isAgg3 rfl rfl rfl) rfl rfl rfl ?_
  refine At.val (Val.field 3 rfl fo_38_3 rfl) rfl rfl rfl ?_
  refine At.val (Val.load (i := 0) Tryz.isAgg32 rfl rfl rfl) rfl rfl rfl ?_
  refine At.callD 1 rfl (fun w hw hr => store_t _ _ _ ad x w (by omega) hr) Tryz.call25 rfl rfl (fun y3 => ?_)
  simp only [sc0, scS]
  refine tE ?_
  refine At.region ?_
  refine tM rfl rfl ?_
  refine At.val (Val.field 1 rfl fo_38_1 rfl) rfl rfl rfl ?_
  refine At.val (Val.load (i := 0) Tryz.isAgg3 rfl rfl rfl) rfl rfl rfl ?_
  refine At.val (Val.field 3 rfl fo_38_3 rfl) rfl rfl rfl ?_
  refine At.val (Val.load (i := 0) Tryz.isAgg32 rfl rfl rfl) rfl rfl rfl ?_
  refine At.callRP 2 rfl (fun w hw hr => rstore_t _ _ _ σ ad x w hsim (by omega) hr) Tryz.call26 rfl rfl (fun y4 r5 hs6 => ?_)
  simp only [sc0, scS]
  refine At.nil ?_
  refine At.blkN ?_
  refine At.thenN ?_
  refine tR ?_
  refine tM rfl rfl ?_
  refine tM rfl rfl ?_
  refine tA rfl rfl ?_
  refine tA rfl rfl ?_
  refine tA rfl rfl ?_
  refine At.nil ?_
  refine At.bring 2 rfl ?_
  simp only [ec0, ecS]
  refine At.bring 2 rfl ?_
  simp only [ec0, ecS]
  refine At.thenN ?_
  refine At.retC ?_
  refine At.ret3 (.inl rfl) rfl rfl rfl rfl rfl (fun w hw => ?_)
  exact ⟨⟨p, y3, (storeT σ ad x).2, q, y4, r5⟩, rfl, ⟨hs6, (goes_store σ ad x).1, Nat.le_trans (goes_store σ ad x).2 (by omega)⟩, Rep.shutS (F := []) (hw.drop ((List.nil_sublist _).cons_cons _ |>.cons_cons _))⟩
 ·skip
  try simp only [hasB, isSizeB, Bool.not_eq_true', Bool.not_eq_false', bne_iff_ne, ne_eq, bne_eq_false_iff_eq, beq_iff_eq, beq_eq_false_iff_ne, decide_eq_true_eq, decide_eq_false_iff_not, gt_iff_lt, ge_iff_le] at h2
  refine tR ?_
  refine At.val (Val.bin rfl rfl rfl) rfl rfl rfl ?_
  refine tA rfl rfl ?_
  refine tE ?_
  refine At.cond rfl (fun h7 => ?_) (fun h7 => ?_)
  ·skip
   try simp only [hasB, isSizeB, Bool.not_eq_true', Bool.not_eq_false', bne_iff_ne, ne_eq, bne_eq_false_iff_eq, beq_iff_eq, beq_eq_false_iff_ne, decide_eq_true_eq, decide_eq_false_iff_not, gt_iff_lt, ge_iff_le] at h7
   refine tR ?_
   refine tM rfl rfl ?_
   refine tM rfl rfl ?_
   refine At.callK 1 rfl (fun w hw hr => size_k _ _ _ w hr) Tryz.call28 rfl rfl ?_
   refine At.callD 1 rfl (fun w hw hr => flushAll_t _ _ _ 0 (8 * (σ.ws.length : Int)) w (by omega) hr) Tryz.call27 rfl rfl (fun y8 => ?_)
   simp only [sc0, scS]
   refine tE ?_
   refine tR ?_
   refine tM rfl rfl ?_
   refine At.callD 1 rfl (fun w hw hr => fence_t _ _ (flushAllT σ 0 (8 * (σ.ws.length : Int))).2 w (by have h9 := (goes_flushAll 0 (8 * (σ.ws.length : Int)) hwl).2; omega) hr) Tryz.call29 rfl rfl (fun y9 => ?_)
   simp only [sc0, scS]
   refine tE ?_
   refine tR ?_
   refine tM rfl rfl ?_
   refine tM rfl rfl ?_
   refine At.callK 2 rfl (fun w hw hr => (by have h0 := rsize_k _ _ _ w hr; rwa [show 64 * (ρ.ls.length : Int) = (8 * (σ.ws.length : Int)) from by omega] at h0)) Tryz.call31 rfl rfl ?_
   refine At.callRP 2 rfl (fun w hw hr => rflushAll_t _ _ _ σ 0 (8 * (σ.ws.length : Int)) w hsim (by omega) hwl hr) Tryz.call30 rfl rfl (fun y10 r11 hs12 => ?_)
   simp only [sc0, scS]
   refine tE ?_
   refine At.region ?_
   refine tM rfl rfl ?_
   refine At.callRP 2 rfl (fun w hw hr => rfence_t _ _ _ (flushAllT σ 0 (8 * (σ.ws.length : Int))).2 w hs12 (by have h9 := (goes_flushAll 0 (8 * (σ.ws.length : Int)) hwl).2; omega) hr) Tryz.call32 rfl rfl (fun y13 r14 hs15 => ?_)
   simp only [sc0, scS]
   refine At.nil ?_
   refine At.blkN ?_
   refine At.thenN ?_
   refine tR ?_
   refine tM rfl rfl ?_
   refine tM rfl rfl ?_
   refine tA rfl rfl ?_
   refine tA rfl rfl ?_
   refine tA rfl rfl ?_
   refine At.nil ?_
   refine At.bring 2 rfl ?_
   simp only [ec0, ecS]
   refine At.bring 2 rfl ?_
   simp only [ec0, ecS]
   refine At.thenN ?_
   refine At.retC ?_
   refine At.ret3 (.inl rfl) rfl rfl rfl rfl rfl (fun w hw => ?_)
   exact ⟨⟨p, y9, (fenceT (flushAllT σ 0 (8 * (σ.ws.length : Int))).2).2, q, y13, r14⟩, rfl, ⟨hs15, ((goes_fence (flushAllT σ 0 (8 * (σ.ws.length : Int))).2).1.trans (goes_flushAll 0 (8 * (σ.ws.length : Int)) hwl).1), (by have h1 := (goes_fence (flushAllT σ 0 (8 * (σ.ws.length : Int))).2).2; have h2 := (goes_flushAll 0 (8 * (σ.ws.length : Int)) hwl).2; exact Nat.le_trans h1 (by omega))⟩, Rep.shutS (F := []) (hw.drop ((List.nil_sublist _).cons_cons _ |>.cons_cons _))⟩
  ·skip
   try simp only [hasB, isSizeB, Bool.not_eq_true', Bool.not_eq_false', bne_iff_ne, ne_eq, bne_eq_false_iff_eq, beq_iff_eq, beq_eq_false_iff_ne, decide_eq_true_eq, decide_eq_false_iff_not, gt_iff_lt, ge_iff_le] at h7
   refine tR ?_
   refine At.val (Val.bin rfl rfl rfl) rfl rfl rfl ?_
   refine tA rfl rfl ?_
   refine tE ?_
   refine At.cond rfl (fun h16 => ?_) (fun h16 => ?_)
   ·skip
    try simp only [hasB, isSizeB, Bool.not_eq_true', Bool.not_eq_false', bne_iff_ne, ne_eq, bne_eq_false_iff_eq, beq_iff_eq, beq_eq_false_iff_ne, decide_eq_true_eq, decide_eq_false_iff_not, gt_iff_lt, ge_iff_le] at h16
    refine tR ?_
    refine tM rfl rfl ?_
    refine At.val (Val.field 2 rfl fo_38_2 rfl) rfl rfl rfl ?_
    refine At.val (Val.load (i := 0) Tryz.isAgg3 rfl rfl rfl) rfl rfl rfl ?_
    refine At.callD 1 rfl (fun w hw hr => arm_t _ _ _ n w hn hr) Tryz.call33 rfl rfl (fun y17 => ?_)
    simp only [sc0, scS]
    refine tE ?_
    refine At.region ?_
    refine tM rfl rfl ?_
    refine At.val (Val.field 2 rfl fo_38_2 rfl) rfl rfl rfl ?_
    refine At.val (Val.load (i := 0) Tryz.isAgg3 rfl rfl rfl) rfl rfl rfl ?_
    refine At.callRP 2 rfl (fun w hw hr => rarm_t _ _ _ σ n w hsim hn hr) Tryz.call34 rfl rfl (fun y18 r19 hs20 => ?_)
    simp only [sc0, scS]
    refine At.nil ?_
    refine At.blkN ?_
    refine At.thenN ?_
    refine tR ?_
    refine tM rfl rfl ?_
    refine tM rfl rfl ?_
    refine tA rfl rfl ?_
    refine tA rfl rfl ?_
    refine tA rfl rfl ?_
    refine At.nil ?_
    refine At.bring 2 rfl ?_
    simp only [ec0, ecS]
    refine At.bring 2 rfl ?_
    simp only [ec0, ecS]
    refine At.thenN ?_
    refine At.retC ?_
    refine At.ret3 (.inl rfl) rfl rfl rfl rfl rfl (fun w hw => ?_)
    exact ⟨⟨p, y17, (armT σ n).2, q, y18, r19⟩, rfl, ⟨hs20, (goes_arm σ n).1, Nat.le_trans (goes_arm σ n).2 (by omega)⟩, Rep.shutS (F := []) (hw.drop ((List.nil_sublist _).cons_cons _ |>.cons_cons _))⟩
   ·skip
    try simp only [hasB, isSizeB, Bool.not_eq_true', Bool.not_eq_false', bne_iff_ne, ne_eq, bne_eq_false_iff_eq, beq_iff_eq, beq_eq_false_iff_ne, decide_eq_true_eq, decide_eq_false_iff_not, gt_iff_lt, ge_iff_le] at h16
    refine tR ?_
    refine At.val (Val.bin rfl rfl rfl) rfl rfl rfl ?_
    refine tA rfl rfl ?_
    refine tE ?_
    refine At.cond rfl (fun h21 => ?_) (fun h21 => ?_)
    ·skip
     try simp only [hasB, isSizeB, Bool.not_eq_true', Bool.not_eq_false', bne_iff_ne, ne_eq, bne_eq_false_iff_eq, beq_iff_eq, beq_eq_false_iff_ne, decide_eq_true_eq, decide_eq_false_iff_not, gt_iff_lt, ge_iff_le] at h21
     refine tR ?_
     refine tM rfl rfl ?_
     refine At.val (Val.field 9 rfl fo_38_6 rfl) rfl rfl rfl ?_
     refine At.val (Val.load (i := 0) Tryz.isAgg36 rfl rfl rfl) rfl rfl rfl ?_
     refine At.callRK 2 rfl (fun w hw hr => rcrash_s _ _ _ σ vL cs w hsim hwl hnw (hvL.keep hw hoL) (Rep.offOld hw hvL hoL (List.mem_of_getElem? (i := 2) rfl)) hr) Tryz.call21 rfl rfl (fun v22 => ?_)
     refine tA rfl rfl ?_
     refine At.nil ?_
     obtain ⟨li, hli⟩ : ∃ li, li = wbytes (picked σ.ws (pkC σ.ws cs)) := ⟨_, rfl⟩
     have hlil : li.length = 8 * σ.ws.length := by rw [hli, wbytes_length, picked_length]
     rw [← hli]
     have hsz : isSizeB (li.length : Int) = true := by unfold isSizeB; rw [decide_eq_true_eq]; omega
     obtain ⟨M, hM⟩ : ∃ M, li.length = 64 * M := ⟨σ.ws.length / 8, by omega⟩
     refine At.thenN ?_
     refine tR ?_
     refine tM rfl rfl ?_
     refine At.callND (fun w hw => load_d _ li w (row_rd (hw.row (i := 0) rfl) (by decide)) hsz) Tryz.call35 rfl rfl (fun p23 y24 => ?_)
     refine tM rfl rfl ?_
     refine At.val (Val.extract rfl rfl) rfl rfl rfl ?_
     refine At.val (Val.extract rfl rfl) rfl rfl rfl ?_
     refine tA rfl rfl ?_
     refine tA rfl rfl ?_
     refine tE ?_
     refine tR ?_
     refine tM rfl rfl ?_
     refine At.callNRD (fun w hw => rload_d _ li M w (row_rd (hw.row (i := 1) rfl) (by decide)) hsz hM) Tryz.call36 rfl rfl (fun p25 y26 => ?_)
     refine tM rfl rfl ?_
     refine At.val (Val.extract rfl rfl) rfl rfl rfl ?_
     refine At.val (Val.extract rfl rfl) rfl rfl rfl ?_
     refine tA rfl rfl ?_
     refine tA rfl rfl ?_
     refine tE ?_
     refine tR ?_
     refine tM rfl rfl ?_
     refine tM rfl rfl ?_
     refine tM rfl rfl ?_
     refine At.val (Val.neNil (t := 25) (by kernel_rfl) rfl) rfl rfl rfl ?_
     refine tM rfl rfl ?_
     refine At.yes rfl rfl ?_
     refine tM rfl rfl ?_
     refine At.yes rfl rfl ?_
     refine At.val (Val.bin rfl rfl rfl) rfl rfl rfl ?_
     refine At.val (Val.pickT rfl rfl) rfl rfl rfl ?_
     refine tA rfl rfl ?_
     refine tA rfl rfl ?_
     refine tA rfl rfl ?_
     refine At.nil ?_
     refine At.bring 1 rfl ?_
     simp only [ec0, ecS]
     refine At.thenN ?_
     refine At.retC ?_
     refine At.blkR ?_
     refine At.thenR ?_
     refine At.ret3 (.inl rfl) rfl rfl rfl rfl rfl (fun w hw => ?_)
     exact ⟨⟨p23, y24, loadD li, p25, y26, loadR li M⟩, rfl, ⟨(sim_load hM), ((loadD_len' li).trans (by omega)), Nat.zero_le _⟩, Rep.shutS (F := []) (hw.drop ((List.nil_sublist _).cons_cons _ |>.cons_cons _))⟩
    ·skip
     try simp only [hasB, isSizeB, Bool.not_eq_true', Bool.not_eq_false', bne_iff_ne, ne_eq, bne_eq_false_iff_eq, beq_iff_eq, beq_eq_false_iff_ne, decide_eq_true_eq, decide_eq_false_iff_not, gt_iff_lt, ge_iff_le] at h21
     refine At.skipC ?_
     refine At.blkN ?_
     refine At.thenN ?_
     refine tR ?_
     refine tM rfl rfl ?_
     refine tM rfl rfl ?_
     refine tA rfl rfl ?_
     refine tA rfl rfl ?_
     refine tA rfl rfl ?_
     refine At.nil ?_
     refine At.bring 2 rfl ?_
     simp only [ec0, ecS]
     refine At.bring 2 rfl ?_
     simp only [ec0, ecS]
     refine At.thenN ?_
     refine At.retC ?_
     refine At.ret3 (.inl rfl) rfl rfl rfl rfl rfl (fun w hw => ?_)
     exact ⟨⟨p, γ, σ, q, δ, ρ⟩, rfl, ⟨hsim, rfl, Nat.le_add_right _ _⟩, Rep.shutS (F := []) (hw.drop ((List.nil_sublist _).cons_cons _ |>.cons_cons _))⟩
theorem upTo_p (pg : Int) (v : Value) (L : List OpT) (lo hi : Int) (w : World) (ht : Tab w) (hv : RdO w v L) (hl : L.length ≤ 140737488355328) :
    PureC Tryz.prog 6 [.int .i64 pg, v, .int .i64 lo, .int .i64 hi] (.bool true) w := by
 refine enter0 Tryz.func6 rfl Tryz.ntmps6 rfl ?_
 simp only [envOf]
 refine tR ?_
 refine tA rfl rfl ?_
 refine tE ?_
 refine tR ?_
 refine tM rfl rfl ?_
 refine At.val (Val.rem rfl rfl (by decide)) rfl rfl rfl ?_
 obtain ⟨z, hz⟩ : ∃ z, z = pg.tmod 60 := ⟨_, rfl⟩
 have hz1 : -60 < z ∧ z < 60 := by rw [hz]; exact ⟨Int.lt_tmod_of_pos pg (b := 60) (by decide), Int.tmod_lt_of_pos pg (b := 60) (by decide)⟩
 rw [← hz]
 refine tA rfl rfl ?_
 refine tE ?_
 refine At.join (σ := Nat) (fun m => m < 60) (fun m => [(0, .int .i64 (m : Int)), (1, v), (2, .int .i64 lo), (3, .int .i64 hi)]) (fun m => []) ?_ ?_
 ·skip
  refine tR ?_
  refine tM rfl rfl ?_
  refine At.val (Val.bin rfl rfl rfl) rfl rfl rfl ?_
  refine tE ?_
  refine At.cond rfl (fun h1 => ?_) (fun h1 => ?_)
  ·skip
   try simp only [hasB, isSizeB, Bool.not_eq_true', Bool.not_eq_false', bne_iff_ne, ne_eq, bne_eq_false_iff_eq, beq_iff_eq, beq_eq_false_iff_ne, decide_eq_true_eq, decide_eq_false_iff_not, gt_iff_lt, ge_iff_le] at h1
   refine At.region ?_
   refine tM rfl rfl ?_
   refine At.val (Val.neg rfl) rfl rfl rfl ?_
   rw [wrap_i64 (n := 0 - z) (by omega) (by omega)]
   refine tA rfl rfl ?_
   refine tE ?_
   exact At.meets _ (by omega : ((0 - z)).toNat < 60) (Sub.cons (congrArg (fun z => some (Value.int IntKind.i64 z)) (by omega : (0 - z) = ((((0 - z)).toNat : Nat) : Int))) (Sub.cons rfl (Sub.cons rfl (Sub.cons rfl Sub.nil)))) (List.Perm.refl _)
  ·skip
   try simp only [hasB, isSizeB, Bool.not_eq_true', Bool.not_eq_false', bne_iff_ne, ne_eq, bne_eq_false_iff_eq, beq_iff_eq, beq_eq_false_iff_ne, decide_eq_true_eq, decide_eq_false_iff_not, gt_iff_lt, ge_iff_le] at h1
   refine At.skipC ?_
   refine At.thenN ?_
   exact At.meets _ (by omega : (z).toNat < 60) (Sub.cons (congrArg (fun z => some (Value.int IntKind.i64 z)) (by omega : z = (((z).toNat : Nat) : Int))) (Sub.cons rfl (Sub.cons rfl (Sub.cons rfl Sub.nil)))) (List.Perm.refl _)
 ·skip
  intro m hs
  have hsz : isSizeB (512 * ((m : Int) + 1)) = true := by unfold isSizeB; rw [decide_eq_true_eq]; omega
  refine tR ?_
  refine tM rfl rfl ?_
  first | refine At.val (Val.addI rfl rfl (by omega) (by omega)) rfl rfl rfl ?_ | refine At.val (Val.bin rfl rfl rfl) rfl rfl rfl ?_
  first | refine At.val (Val.mulI rfl rfl (by omega) (by omega)) rfl rfl rfl ?_ | refine At.val (Val.bin rfl rfl rfl) rfl rfl rfl ?_
  refine At.callND (fun w hw => new_n _ w hsz (8 * (8 * (m + 1))) (by omega)) Tryz.call7 rfl rfl (fun p2 y3 => ?_)
  refine tM rfl rfl ?_
  refine At.val (Val.extract rfl rfl) rfl rfl rfl ?_
  refine At.val (Val.extract rfl rfl) rfl rfl rfl ?_
  refine tA rfl rfl ?_
  refine tA rfl rfl ?_
  refine tE ?_
  refine tR ?_
  refine tM rfl rfl ?_
  first | refine At.val (Val.addI rfl rfl (by omega) (by omega)) rfl rfl rfl ?_ | refine At.val (Val.bin rfl rfl rfl) rfl rfl rfl ?_
  first | refine At.val (Val.mulI rfl rfl (by omega) (by omega)) rfl rfl rfl ?_ | refine At.val (Val.bin rfl rfl rfl) rfl rfl rfl ?_
  refine At.callNRD (fun w hw => rnew_d _ (8 * (m + 1)) w hsz (by omega)) Tryz.call8 rfl rfl (fun p4 y5 => ?_)
  refine tM rfl rfl ?_
  refine At.val (Val.extract rfl rfl) rfl rfl rfl ?_
  refine At.val (Val.extract rfl rfl) rfl rfl rfl ?_
  refine tA rfl rfl ?_
  refine tA rfl rfl ?_
  refine tE ?_
  refine At.seq ?_
  refine tR ?_
  refine tM rfl rfl ?_
  refine At.val (Val.eqNil (t := 25) (by kernel_rfl) rfl) rfl rfl rfl ?_
  refine tM rfl rfl ?_
  refine At.yes rfl rfl ?_
  refine tM rfl rfl ?_
  refine At.yes rfl rfl ?_
  refine At.val (Val.bin rfl rfl rfl) rfl rfl rfl ?_
  refine At.val (Val.pickF rfl rfl) rfl rfl rfl ?_
  refine tE ?_
  refine At.condF rfl ?_
  refine At.skipC ?_
  refine At.thenN ?_
  refine At.seq ?_
  refine tR ?_
  refine tA rfl rfl ?_
  refine At.nil ?_
  refine At.bring 1 rfl ?_
  simp only [ec0, ecS]
  refine At.shutS (L := [Dev p2 y3 (zeroD (8 * (8 * (m + 1)))), RDev p4 y5 (zeroR (8 * (m + 1)))]) ?_
  refine At.thenN ?_
  refine At.block ?_
  skip
  refine At.loop (σ := Nat × Pq) (fun s => s.1 ≤ L.length ∧ s.1 ≤ 200 ∧ Sim s.2.σ s.2.ρ ∧ s.2.σ.ws.length = 8 * (8 * (m + 1)) ∧ s.2.σ.steps ≤ s.1 * 140000) (fun s => [(1, v), (2, .int .i64 lo), (3, .int .i64 hi), (9, .pointer (some ⟨s.2.p, 0, none⟩)), (11, .pointer (some ⟨s.2.q, 0, none⟩)), (13, .int .i64 (s.1 : Int))]) (fun s => [pqR s.2]) (fun s => L.length - s.1) (0, ⟨p2, y3, zeroD (8 * (8 * (m + 1))), p4, y5, zeroR (8 * (m + 1))⟩) ⟨Nat.zero_le _, Nat.zero_le _, sim_zero _, zeroD_len _, Nat.zero_le _⟩ (Sub.cons rfl (Sub.cons rfl (Sub.cons rfl (Sub.cons rfl (Sub.cons rfl (Sub.cons rfl Sub.nil)))))) (List.Perm.refl _) ?_
  intro s hs
  obtain ⟨k, y⟩ := s
  dsimp only at hs ⊢
  obtain ⟨hk1, hk2, hys, hyl, hyt⟩ := hs
  refine At.seq ?_
  refine tR ?_
  refine tM rfl rfl ?_
  refine tM rfl rfl ?_
  refine At.val (Val.lenRd hv.1 Tryz.underlying22 rfl) rfl rfl rfl ?_
  refine At.val (Val.bin rfl rfl rfl) rfl rfl rfl ?_
  refine At.weaken [(1, _), (2, _), (3, _), (9, _), (11, _), (13, _), (45, _)] (Sub.cons rfl (Sub.cons rfl (Sub.cons rfl (Sub.cons rfl (Sub.cons rfl (Sub.cons rfl (Sub.cons rfl Sub.nil))))))) ?_
  refine At.boolMeet 4 49 (decide (k < L.length ∧ k < 200)) ?_ ?_
  ·skip
   simp only [List.take_succ_cons, List.take_zero]
   refine tM rfl rfl ?_
   refine At.split (t := 46) rfl (fun h6 => ?_) (fun h6 => ?_)
   ·skip
    try simp only [hasB, isSizeB, Bool.not_eq_true', Bool.not_eq_false', bne_iff_ne, ne_eq, bne_eq_false_iff_eq, beq_iff_eq, beq_eq_false_iff_ne, decide_eq_true_eq, decide_eq_false_iff_not, gt_iff_lt, ge_iff_le] at h6
    refine At.yes rfl rfl ?_
    refine tM rfl rfl ?_
    refine At.yes rfl rfl ?_
    refine At.val (Val.bin rfl rfl rfl) rfl rfl rfl ?_
    refine At.val (Val.pickT rfl rfl) rfl rfl rfl ?_
    refine At.nil ?_
    exact At.boolEnd rfl (by apply Bool.eq_iff_iff.2; (simp only [decide_eq_true_eq, Bool.false_eq_true, false_iff, true_iff, gt_iff_lt, ge_iff_le]) <;> omega) (by repeat (first | exact Sub.nil | refine Sub.cons rfl ?_))
   ·skip
    try simp only [hasB, isSizeB, Bool.not_eq_true', Bool.not_eq_false', bne_iff_ne, ne_eq, bne_eq_false_iff_eq, beq_iff_eq, beq_eq_false_iff_ne, decide_eq_true_eq, decide_eq_false_iff_not, gt_iff_lt, ge_iff_le] at h6
    refine At.no rfl rfl rfl rfl ?_
    refine At.no rfl rfl rfl rfl ?_
    refine At.val (Val.pickF rfl rfl) rfl rfl rfl ?_
    refine At.nil ?_
    exact At.boolEnd rfl (by apply Bool.eq_iff_iff.2; (simp only [decide_eq_true_eq, Bool.false_eq_true, false_iff, true_iff, gt_iff_lt, ge_iff_le]) <;> omega) (by repeat (first | exact Sub.nil | refine Sub.cons rfl ?_))
  ·skip
   simp only [List.drop_succ_cons, List.drop_zero]
   refine tE ?_
   refine At.cond rfl (fun h7 => ?_) (fun h7 => ?_)
   ·skip
    try simp only [hasB, isSizeB, Bool.not_eq_true', Bool.not_eq_false', bne_iff_ne, ne_eq, bne_eq_false_iff_eq, beq_iff_eq, beq_eq_false_iff_ne, decide_eq_true_eq, decide_eq_false_iff_not, gt_iff_lt, ge_iff_le] at h7
    obtain ⟨o, ho⟩ : ∃ o, L[k]? = some o := ⟨_, List.getElem?_eq_getElem (by omega)⟩
    have hop := hv.2 o (List.mem_of_getElem? ho)
    refine At.skipC ?_
    refine At.thenN ?_
    refine At.seq ?_
    refine At.block ?_
    refine tR ?_
    refine tM rfl rfl ?_
    refine tM rfl rfl ?_
    refine At.idxRd hv.1 Tryz.underlying22 Tryz.sizeOf38 rfl rfl (by omega) (by omega) rfl rfl (fun bo oo hoc => ?_)
    rw [Int.toNat_natCast] at hoc
    refine At.val (Val.loadOldPart (vs := [.int .i64 o.kd, .int .i64 o.ad, .int .i64 o.n, b64 o.x, .int .i64 o.sp, .int .i64 o.si, .int .i64 o.sc, .int .i64 o.sd, o.vS, o.vL]) Tryz.isAgg38 Tryz.sizeOf38 rfl rfl (fun j u hj => hoc j u (oC_at ho hj)) (fun h => h)) rfl rfl rfl ?_
    refine At.alloc zero_38 zc_38 rfl (fun b8 => ?_)
    refine At.storeAll (i := 0) (vs := [.int .i64 o.kd, .int .i64 o.ad, .int .i64 o.n, b64 o.x, .int .i64 o.sp, .int .i64 o.si, .int .i64 o.sc, .int .i64 o.sd, o.vS, o.vL]) Tryz.sizeOf38 rfl rfl rfl (by intro u hu; simp only [List.mem_cons, List.not_mem_nil, or_false] at hu; rcases hu with rfl | rfl | rfl | rfl | rfl | rfl | rfl | rfl | rfl | rfl <;> first | rfl | exact rd_one1 hop.s | exact rd_one1 hop.l) rfl rfl ?_
    simp only [sc0, scS]
    refine tE ?_
    refine tR ?_
    refine tA rfl rfl ?_
    refine tE ?_
    refine At.seq ?_
    refine tR ?_
    refine At.val (Val.field 0 rfl fo_38_0 rfl) rfl rfl rfl ?_
    refine At.val (Val.load (i := 0) Tryz.isAgg3 rfl rfl rfl) rfl rfl rfl ?_
    refine tE ?_
    refine At.block ?_
    refine At.seq ?_
    refine tR ?_
    refine At.val (Val.bin rfl rfl rfl) rfl rfl rfl ?_
    refine tA rfl rfl ?_
    refine tE ?_
    refine At.cond rfl (fun h9 => ?_) (fun h9 => ?_)
    ·skip
     try simp only [hasB, isSizeB, Bool.not_eq_true', Bool.not_eq_false', bne_iff_ne, ne_eq, bne_eq_false_iff_eq, beq_iff_eq, beq_eq_false_iff_ne, decide_eq_true_eq, decide_eq_false_iff_not, gt_iff_lt, ge_iff_le] at h9
     have hk66 := h9
     first | rw [show (o.kd == 1) = true from beq_iff_eq.2 hk66] | rw [show (o.kd == 3) = true from beq_iff_eq.2 hk66]
     refine At.skipC ?_
     refine At.thenN ?_
     refine At.condT rfl ?_
     refine At.region ?_
     refine tM rfl rfl ?_
     refine tM rfl rfl ?_
     refine At.val (Val.loadAll (i := 0) Tryz.isAgg38 Tryz.sizeOf38 rfl rfl (by simp)) rfl rfl rfl ?_
     refine At.callY (β := Pq) 1 (r' := pqR) (v := fun _ => .bool true) (I := fun z => z.p = y.p ∧ z.q = y.q ∧ PqOk y.σ 160 z) rfl (fun w hw hr => saves_k y.p y.q y.γ y.δ y.σ y.ρ o.kd o.ad o.n o.sp o.si o.sc o.sd o.x o.vS o.vL o.L o.cs w hys (ht.mod hw.mod) (Rep.off0 hw ht (fun h => h) (i := 1) rfl) (hop.s.mod hw.mod) (hop.s.off (hw.newFoot (List.mem_of_getElem? (i := 1) rfl))) hop.sl (by omega) (by omega) hr) Tryz.call9 rfl rfl (fun y2 hy2 => ?_)
     simp only [sc0, scS]
     obtain ⟨hp2, hq2, hs2, hl2, ht2⟩ := hy2
     refine tA rfl rfl ?_
     refine At.nil ?_
     refine At.blkN ?_
     refine At.thenN ?_
     refine tR ?_
     refine tM rfl rfl ?_
     refine At.val (Val.not rfl) rfl rfl rfl ?_
     refine tM rfl rfl ?_
     refine At.no rfl rfl rfl rfl ?_
     refine At.no rfl rfl rfl rfl ?_
     refine At.no rfl rfl rfl rfl ?_
     refine At.no rfl rfl rfl rfl ?_
     refine At.no rfl rfl rfl rfl ?_
     refine At.noU rfl rfl rfl ?_
     refine At.noU rfl rfl rfl ?_
     refine At.noU rfl rfl rfl ?_
     refine At.noU rfl rfl rfl ?_
     refine At.no rfl rfl rfl rfl ?_
     refine At.no rfl rfl rfl rfl ?_
     refine At.noU rfl rfl rfl ?_
     refine At.noU rfl rfl rfl ?_
     refine At.noU rfl rfl rfl ?_
     refine At.no rfl rfl rfl rfl ?_
     refine At.val (Val.pickF rfl rfl) rfl rfl rfl ?_
     refine tE ?_
     refine At.condF rfl ?_
     refine At.skipC ?_
     refine At.blkN ?_
     refine At.thenN ?_
     refine At.region ?_
     refine tM rfl rfl ?_
     first | refine At.val (Val.addI rfl rfl (by omega) (by omega)) rfl rfl rfl ?_ | refine At.val (Val.bin rfl rfl rfl) rfl rfl rfl ?_
     refine tA rfl rfl ?_
     refine tE ?_
     refine At.drop 0 ?_
     simp only [ec0, ecS]
     exact At.again (k + 1, y2) ⟨(show k + 1 ≤ _ by omega), (show k + 1 ≤ 200 by omega), hs2, hl2.trans hyl, (by dsimp only; omega)⟩ (by dsimp only; omega) (Sub.cons rfl (Sub.cons rfl (Sub.cons rfl (Sub.cons (congrArg (fun z => some (Value.pointer (some ⟨z, 0, none⟩))) hp2.symm) (Sub.cons (congrArg (fun z => some (Value.pointer (some ⟨z, 0, none⟩))) hq2.symm) (Sub.cons (congrArg (fun z => some (Value.int IntKind.i64 z)) (by dsimp only; omega)) Sub.nil)))))) (List.Perm.refl _)
    ·skip
     try simp only [hasB, isSizeB, Bool.not_eq_true', Bool.not_eq_false', bne_iff_ne, ne_eq, bne_eq_false_iff_eq, beq_iff_eq, beq_eq_false_iff_ne, decide_eq_true_eq, decide_eq_false_iff_not, gt_iff_lt, ge_iff_le] at h9
     refine At.region ?_
     refine At.val (Val.bin rfl rfl rfl) rfl rfl rfl ?_
     refine tA rfl rfl ?_
     refine tE ?_
     refine At.cond rfl (fun h10 => ?_) (fun h10 => ?_)
     ·skip
      try simp only [hasB, isSizeB, Bool.not_eq_true', Bool.not_eq_false', bne_iff_ne, ne_eq, bne_eq_false_iff_eq, beq_iff_eq, beq_eq_false_iff_ne, decide_eq_true_eq, decide_eq_false_iff_not, gt_iff_lt, ge_iff_le] at h10
      have hk66 := h10
      first | rw [show (o.kd == 1) = true from beq_iff_eq.2 hk66] | rw [show (o.kd == 3) = true from beq_iff_eq.2 hk66]
      refine At.region ?_
      refine tM rfl rfl ?_
      refine tM rfl rfl ?_
      refine At.val (Val.loadAll (i := 0) Tryz.isAgg38 Tryz.sizeOf38 rfl rfl (by simp)) rfl rfl rfl ?_
      refine At.callY (β := Pq) 1 (r' := pqR) (v := fun _ => .bool true) (I := fun z => z.p = y.p ∧ z.q = y.q ∧ PqOk y.σ 160 z) rfl (fun w hw hr => saves_k y.p y.q y.γ y.δ y.σ y.ρ o.kd o.ad o.n o.sp o.si o.sc o.sd o.x o.vS o.vL o.L o.cs w hys (ht.mod hw.mod) (Rep.off0 hw ht (fun h => h) (i := 1) rfl) (hop.s.mod hw.mod) (hop.s.off (hw.newFoot (List.mem_of_getElem? (i := 1) rfl))) hop.sl (by omega) (by omega) hr) Tryz.call9 rfl rfl (fun y2 hy2 => ?_)
      simp only [sc0, scS]
      obtain ⟨hp2, hq2, hs2, hl2, ht2⟩ := hy2
      refine tA rfl rfl ?_
      refine At.nil ?_
      refine At.blkN ?_
      refine At.thenN ?_
      refine tR ?_
      refine tM rfl rfl ?_
      refine At.val (Val.not rfl) rfl rfl rfl ?_
      refine tM rfl rfl ?_
      refine At.no rfl rfl rfl rfl ?_
      refine At.no rfl rfl rfl rfl ?_
      refine At.no rfl rfl rfl rfl ?_
      refine At.no rfl rfl rfl rfl ?_
      refine At.no rfl rfl rfl rfl ?_
      refine At.noU rfl rfl rfl ?_
      refine At.noU rfl rfl rfl ?_
      refine At.noU rfl rfl rfl ?_
      refine At.noU rfl rfl rfl ?_
      refine At.no rfl rfl rfl rfl ?_
      refine At.no rfl rfl rfl rfl ?_
      refine At.noU rfl rfl rfl ?_
      refine At.noU rfl rfl rfl ?_
      refine At.noU rfl rfl rfl ?_
      refine At.no rfl rfl rfl rfl ?_
      refine At.val (Val.pickF rfl rfl) rfl rfl rfl ?_
      refine tE ?_
      refine At.condF rfl ?_
      refine At.skipC ?_
      refine At.blkN ?_
      refine At.thenN ?_
      refine At.region ?_
      refine tM rfl rfl ?_
      first | refine At.val (Val.addI rfl rfl (by omega) (by omega)) rfl rfl rfl ?_ | refine At.val (Val.bin rfl rfl rfl) rfl rfl rfl ?_
      refine tA rfl rfl ?_
      refine tE ?_
      refine At.drop 0 ?_
      simp only [ec0, ecS]
      exact At.again (k + 1, y2) ⟨(show k + 1 ≤ _ by omega), (show k + 1 ≤ 200 by omega), hs2, hl2.trans hyl, (by dsimp only; omega)⟩ (by dsimp only; omega) (Sub.cons rfl (Sub.cons rfl (Sub.cons rfl (Sub.cons (congrArg (fun z => some (Value.pointer (some ⟨z, 0, none⟩))) hp2.symm) (Sub.cons (congrArg (fun z => some (Value.pointer (some ⟨z, 0, none⟩))) hq2.symm) (Sub.cons (congrArg (fun z => some (Value.int IntKind.i64 z)) (by dsimp only; omega)) Sub.nil)))))) (List.Perm.refl _)
     ·skip
      try simp only [hasB, isSizeB, Bool.not_eq_true', Bool.not_eq_false', bne_iff_ne, ne_eq, bne_eq_false_iff_eq, beq_iff_eq, beq_eq_false_iff_ne, decide_eq_true_eq, decide_eq_false_iff_not, gt_iff_lt, ge_iff_le] at h10
      refine tR ?_
      refine At.val (Val.bin rfl rfl rfl) rfl rfl rfl ?_
      refine tA rfl rfl ?_
      refine tE ?_
      refine At.cond rfl (fun h11 => ?_) (fun h11 => ?_)
      ·skip
       try simp only [hasB, isSizeB, Bool.not_eq_true', Bool.not_eq_false', bne_iff_ne, ne_eq, bne_eq_false_iff_eq, beq_iff_eq, beq_eq_false_iff_ne, decide_eq_true_eq, decide_eq_false_iff_not, gt_iff_lt, ge_iff_le] at h11
       refine At.region ?_
       refine At.val (Val.field 0 rfl fo_38_0 rfl) rfl rfl rfl ?_
       refine At.val (Val.load (i := 0) Tryz.isAgg3 rfl rfl rfl) rfl rfl rfl ?_
       refine tM rfl rfl ?_
       refine At.val (Val.bin rfl rfl rfl) rfl rfl rfl ?_
       refine tM rfl rfl ?_
       refine At.split (t := 79) rfl (fun h12 => ?_) (fun h12 => ?_)
       ·skip
        try simp only [hasB, isSizeB, Bool.not_eq_true', Bool.not_eq_false', bne_iff_ne, ne_eq, bne_eq_false_iff_eq, beq_iff_eq, beq_eq_false_iff_ne, decide_eq_true_eq, decide_eq_false_iff_not, gt_iff_lt, ge_iff_le] at h12
        refine At.no rfl rfl rfl rfl ?_
        refine At.no rfl rfl rfl rfl ?_
        refine At.no rfl rfl rfl rfl ?_
        refine At.no rfl rfl rfl rfl ?_
        refine At.val (Val.pickT rfl rfl) rfl rfl rfl ?_
        refine tM rfl rfl ?_
        refine At.no rfl rfl rfl rfl ?_
        refine At.no rfl rfl rfl rfl ?_
        refine At.no rfl rfl rfl rfl ?_
        refine At.val (Val.pickT rfl rfl) rfl rfl rfl ?_
        refine tA rfl rfl ?_
        refine At.nil ?_
        refine At.blkN ?_
        refine At.thenN ?_
        refine tR ?_
        refine tM rfl rfl ?_
        refine At.val (Val.not rfl) rfl rfl rfl ?_
        refine tM rfl rfl ?_
        refine At.no rfl rfl rfl rfl ?_
        refine At.no rfl rfl rfl rfl ?_
        refine At.no rfl rfl rfl rfl ?_
        refine At.no rfl rfl rfl rfl ?_
        refine At.no rfl rfl rfl rfl ?_
        refine At.noU rfl rfl rfl ?_
        refine At.noU rfl rfl rfl ?_
        refine At.noU rfl rfl rfl ?_
        refine At.noU rfl rfl rfl ?_
        refine At.no rfl rfl rfl rfl ?_
        refine At.no rfl rfl rfl rfl ?_
        refine At.noU rfl rfl rfl ?_
        refine At.noU rfl rfl rfl ?_
        refine At.noU rfl rfl rfl ?_
        refine At.no rfl rfl rfl rfl ?_
        refine At.val (Val.pickF rfl rfl) rfl rfl rfl ?_
        refine tE ?_
        refine At.condF rfl ?_
        refine At.skipC ?_
        refine At.blkN ?_
        refine At.thenN ?_
        refine At.region ?_
        refine tM rfl rfl ?_
        first | refine At.val (Val.addI rfl rfl (by omega) (by omega)) rfl rfl rfl ?_ | refine At.val (Val.bin rfl rfl rfl) rfl rfl rfl ?_
        refine tA rfl rfl ?_
        refine tE ?_
        refine At.drop 0 ?_
        simp only [ec0, ecS]
        exact At.again (k + 1, y) ⟨(show k + 1 ≤ _ by omega), (show k + 1 ≤ 200 by omega), hys, hyl, Nat.le_trans hyt (Nat.mul_le_mul_right 140000 (Nat.le_succ k))⟩ (by dsimp only; omega) (Sub.cons rfl (Sub.cons rfl (Sub.cons rfl (Sub.cons rfl (Sub.cons rfl (Sub.cons (congrArg (fun z => some (Value.int IntKind.i64 z)) (by dsimp only; omega)) Sub.nil)))))) (List.Perm.refl _)
       ·skip
        try simp only [hasB, isSizeB, Bool.not_eq_true', Bool.not_eq_false', bne_iff_ne, ne_eq, bne_eq_false_iff_eq, beq_iff_eq, beq_eq_false_iff_ne, decide_eq_true_eq, decide_eq_false_iff_not, gt_iff_lt, ge_iff_le] at h12
        refine At.yes rfl rfl ?_
        refine At.val (Val.field 0 rfl fo_38_0 rfl) rfl rfl rfl ?_
        refine At.yes rfl rfl ?_
        refine At.val (Val.load (i := 0) Tryz.isAgg3 rfl rfl rfl) rfl rfl rfl ?_
        refine At.yes rfl rfl ?_
        refine tM rfl rfl ?_
        refine At.yes rfl rfl ?_
        refine At.val (Val.bin rfl rfl rfl) rfl rfl rfl ?_
        refine At.val (Val.pickF rfl rfl) rfl rfl rfl ?_
        refine tM rfl rfl ?_
        refine At.split (t := 85) rfl (fun h13 => ?_) (fun h13 => ?_)
        ·skip
         try simp only [hasB, isSizeB, Bool.not_eq_true', Bool.not_eq_false', bne_iff_ne, ne_eq, bne_eq_false_iff_eq, beq_iff_eq, beq_eq_false_iff_ne, decide_eq_true_eq, decide_eq_false_iff_not, gt_iff_lt, ge_iff_le] at h13
         refine At.no rfl rfl rfl rfl ?_
         refine At.no rfl rfl rfl rfl ?_
         refine At.no rfl rfl rfl rfl ?_
         refine At.val (Val.pickT rfl rfl) rfl rfl rfl ?_
         refine tA rfl rfl ?_
         refine At.nil ?_
         refine At.blkN ?_
         refine At.thenN ?_
         refine tR ?_
         refine tM rfl rfl ?_
         refine At.val (Val.not rfl) rfl rfl rfl ?_
         refine tM rfl rfl ?_
         refine At.no rfl rfl rfl rfl ?_
         refine At.no rfl rfl rfl rfl ?_
         refine At.no rfl rfl rfl rfl ?_
         refine At.no rfl rfl rfl rfl ?_
         refine At.no rfl rfl rfl rfl ?_
         refine At.noU rfl rfl rfl ?_
         refine At.noU rfl rfl rfl ?_
         refine At.noU rfl rfl rfl ?_
         refine At.noU rfl rfl rfl ?_
         refine At.no rfl rfl rfl rfl ?_
         refine At.no rfl rfl rfl rfl ?_
         refine At.noU rfl rfl rfl ?_
         refine At.noU rfl rfl rfl ?_
         refine At.noU rfl rfl rfl ?_
         refine At.no rfl rfl rfl rfl ?_
         refine At.val (Val.pickF rfl rfl) rfl rfl rfl ?_
         refine tE ?_
         refine At.condF rfl ?_
         refine At.skipC ?_
         refine At.blkN ?_
         refine At.thenN ?_
         refine At.region ?_
         refine tM rfl rfl ?_
         first | refine At.val (Val.addI rfl rfl (by omega) (by omega)) rfl rfl rfl ?_ | refine At.val (Val.bin rfl rfl rfl) rfl rfl rfl ?_
         refine tA rfl rfl ?_
         refine tE ?_
         refine At.drop 0 ?_
         simp only [ec0, ecS]
         exact At.again (k + 1, y) ⟨(show k + 1 ≤ _ by omega), (show k + 1 ≤ 200 by omega), hys, hyl, Nat.le_trans hyt (Nat.mul_le_mul_right 140000 (Nat.le_succ k))⟩ (by dsimp only; omega) (Sub.cons rfl (Sub.cons rfl (Sub.cons rfl (Sub.cons rfl (Sub.cons rfl (Sub.cons (congrArg (fun z => some (Value.int IntKind.i64 z)) (by dsimp only; omega)) Sub.nil)))))) (List.Perm.refl _)
        ·skip
         try simp only [hasB, isSizeB, Bool.not_eq_true', Bool.not_eq_false', bne_iff_ne, ne_eq, bne_eq_false_iff_eq, beq_iff_eq, beq_eq_false_iff_ne, decide_eq_true_eq, decide_eq_false_iff_not, gt_iff_lt, ge_iff_le] at h13
         refine At.yes rfl rfl ?_
         refine tM rfl rfl ?_
         refine At.yes rfl rfl ?_
         refine At.val (Val.loadAll (i := 0) Tryz.isAgg38 Tryz.sizeOf38 rfl rfl (by simp)) rfl rfl rfl ?_
         refine At.yes rfl rfl ?_
         refine At.callK 1 rfl (fun w hw hr => upd_in hr (restores_k y.q y.δ y.ρ y.σ o.kd o.ad o.n o.sp o.si o.sc o.sd o.x o.vS o.vL o.L o.cs w hys (ht.mod hw.mod) (fun hb => Rep.off0 hw ht (fun h => h) (i := 1) rfl (feet_in 0 hb)) (hop.s.mod hw.mod) (hop.s.off (fun b hb => hw.newFoot (List.mem_of_getElem? (i := 1) rfl) b (feet_in b hb))) hop.sl (hop.l.mod hw.mod) (hop.l.off (fun b hb => hw.newFoot (List.mem_of_getElem? (i := 1) rfl) b (feet_in b hb))) hop.cl hop.p (pq_news hr (by omega)) (star_r hr))) Tryz.call10 rfl rfl ?_
         refine At.val (Val.pickF rfl rfl) rfl rfl rfl ?_
         refine tA rfl rfl ?_
         refine At.nil ?_
         refine At.blkN ?_
         refine At.thenN ?_
         refine tR ?_
         refine tM rfl rfl ?_
         refine At.val (Val.not rfl) rfl rfl rfl ?_
         refine tM rfl rfl ?_
         refine At.no rfl rfl rfl rfl ?_
         refine At.no rfl rfl rfl rfl ?_
         refine At.no rfl rfl rfl rfl ?_
         refine At.no rfl rfl rfl rfl ?_
         refine At.no rfl rfl rfl rfl ?_
         refine At.noU rfl rfl rfl ?_
         refine At.noU rfl rfl rfl ?_
         refine At.noU rfl rfl rfl ?_
         refine At.noU rfl rfl rfl ?_
         refine At.no rfl rfl rfl rfl ?_
         refine At.no rfl rfl rfl rfl ?_
         refine At.noU rfl rfl rfl ?_
         refine At.noU rfl rfl rfl ?_
         refine At.noU rfl rfl rfl ?_
         refine At.no rfl rfl rfl rfl ?_
         refine At.val (Val.pickF rfl rfl) rfl rfl rfl ?_
         refine tE ?_
         refine At.condF rfl ?_
         refine At.skipC ?_
         refine At.blkN ?_
         refine At.thenN ?_
         refine At.region ?_
         refine tM rfl rfl ?_
         first | refine At.val (Val.addI rfl rfl (by omega) (by omega)) rfl rfl rfl ?_ | refine At.val (Val.bin rfl rfl rfl) rfl rfl rfl ?_
         refine tA rfl rfl ?_
         refine tE ?_
         refine At.drop 0 ?_
         simp only [ec0, ecS]
         exact At.again (k + 1, y) ⟨(show k + 1 ≤ _ by omega), (show k + 1 ≤ 200 by omega), hys, hyl, Nat.le_trans hyt (Nat.mul_le_mul_right 140000 (Nat.le_succ k))⟩ (by dsimp only; omega) (Sub.cons rfl (Sub.cons rfl (Sub.cons rfl (Sub.cons rfl (Sub.cons rfl (Sub.cons (congrArg (fun z => some (Value.int IntKind.i64 z)) (by dsimp only; omega)) Sub.nil)))))) (List.Perm.refl _)
      ·skip
       try simp only [hasB, isSizeB, Bool.not_eq_true', Bool.not_eq_false', bne_iff_ne, ne_eq, bne_eq_false_iff_eq, beq_iff_eq, beq_eq_false_iff_ne, decide_eq_true_eq, decide_eq_false_iff_not, gt_iff_lt, ge_iff_le] at h11
       refine At.region ?_
       refine tM rfl rfl ?_
       refine tM rfl rfl ?_
       refine At.val (Val.loadAll (i := 0) Tryz.isAgg38 Tryz.sizeOf38 rfl rfl (by simp)) rfl rfl rfl ?_
       refine At.callY (β := Pq) 1 (r' := pqR) (v := fun z => .tuple #[.pointer (some ⟨z.p, 0, none⟩), .pointer (some ⟨z.q, 0, none⟩), .bool true]) (I := PqOk y.σ 140000) rfl (fun w hw hr => moves_k y.p y.q y.γ y.δ y.σ y.ρ o.kd o.ad o.n o.sp o.si o.sc o.sd o.x o.vS o.vL o.L o.cs w hys (hop.l.mod hw.mod) (hop.l.off (hw.newFoot (List.mem_of_getElem? (i := 1) rfl))) hop.n (by omega) (by omega) hr) Tryz.call11 rfl rfl (fun y2 hy2 => ?_)
       simp only [sc0, scS]
       obtain ⟨hs2, hl2, ht2⟩ := hy2
       refine tM rfl rfl ?_
       refine At.val (Val.extract rfl rfl) rfl rfl rfl ?_
       refine At.val (Val.extract rfl rfl) rfl rfl rfl ?_
       refine At.val (Val.extract rfl rfl) rfl rfl rfl ?_
       refine tA rfl rfl ?_
       refine tA rfl rfl ?_
       refine tA rfl rfl ?_
       refine At.nil ?_
       refine At.blkN ?_
       refine At.thenN ?_
       refine tR ?_
       refine tM rfl rfl ?_
       refine At.val (Val.not rfl) rfl rfl rfl ?_
       refine tM rfl rfl ?_
       refine At.no rfl rfl rfl rfl ?_
       refine At.no rfl rfl rfl rfl ?_
       refine At.no rfl rfl rfl rfl ?_
       refine At.no rfl rfl rfl rfl ?_
       refine At.no rfl rfl rfl rfl ?_
       refine At.noU rfl rfl rfl ?_
       refine At.noU rfl rfl rfl ?_
       refine At.noU rfl rfl rfl ?_
       refine At.noU rfl rfl rfl ?_
       refine At.no rfl rfl rfl rfl ?_
       refine At.no rfl rfl rfl rfl ?_
       refine At.noU rfl rfl rfl ?_
       refine At.noU rfl rfl rfl ?_
       refine At.noU rfl rfl rfl ?_
       refine At.no rfl rfl rfl rfl ?_
       refine At.val (Val.pickF rfl rfl) rfl rfl rfl ?_
       refine tE ?_
       refine At.condF rfl ?_
       refine At.skipC ?_
       refine At.blkN ?_
       refine At.thenN ?_
       refine At.region ?_
       refine tM rfl rfl ?_
       first | refine At.val (Val.addI rfl rfl (by omega) (by omega)) rfl rfl rfl ?_ | refine At.val (Val.bin rfl rfl rfl) rfl rfl rfl ?_
       refine tA rfl rfl ?_
       refine tE ?_
       refine At.drop 0 ?_
       simp only [ec0, ecS]
       exact At.again (k + 1, y2) ⟨(show k + 1 ≤ _ by omega), (show k + 1 ≤ 200 by omega), hs2, hl2.trans hyl, (by dsimp only; omega)⟩ (by dsimp only; omega) (Sub.cons rfl (Sub.cons rfl (Sub.cons rfl (Sub.cons rfl (Sub.cons rfl (Sub.cons (congrArg (fun z => some (Value.int IntKind.i64 z)) (by dsimp only; omega)) Sub.nil)))))) (List.Perm.refl _)
   ·skip
    try simp only [hasB, isSizeB, Bool.not_eq_true', Bool.not_eq_false', bne_iff_ne, ne_eq, bne_eq_false_iff_eq, beq_iff_eq, beq_eq_false_iff_ne, decide_eq_true_eq, decide_eq_false_iff_not, gt_iff_lt, ge_iff_le] at h7
    refine At.exitC ?_
    refine At.thenX ?_
    refine At.thenX ?_
    refine At.blkX ?_
    refine At.thenN ?_
    refine tR ?_
    refine tA rfl rfl ?_
    refine tE ?_
    refine At.retC ?_
    refine At.ret1 (.inl rfl) rfl rfl rfl (fun w hw => ?_)
    exact ⟨rfl, hw.mod⟩
theorem lawSavedSaves_p (pg : Int) (v : Value) (L : List OpT) (w : World) (ht : Tab w) (hv : RdO w v L) (hl : L.length ≤ 140737488355328) :
    PureC Tryz.prog 3 [.int .i64 pg, v] (.bool true) w := by
 refine enter0 Tryz.func3 rfl Tryz.ntmps3 rfl ?_
 simp only [envOf]
 refine tR ?_
 refine tA rfl rfl ?_
 refine tE ?_
 refine tR ?_
 refine tM rfl rfl ?_
 refine tM rfl rfl ?_
 refine At.callP (fun w hw => upTo_p pg v L 1 1 w (ht.mod hw.mod) (hv.mod hw.mod) hl) Tryz.call6 rfl rfl ?_
 refine tA rfl rfl ?_
 refine tE ?_
 refine At.retC ?_
 refine At.ret1 (.inl rfl) rfl rfl rfl (fun w hw => ?_)
 exact ⟨rfl, hw.mod⟩
theorem lawSavedRestores_p (pg : Int) (v : Value) (L : List OpT) (w : World) (ht : Tab w) (hv : RdO w v L) (hl : L.length ≤ 140737488355328) :
    PureC Tryz.prog 4 [.int .i64 pg, v] (.bool true) w := by
 refine enter0 Tryz.func4 rfl Tryz.ntmps4 rfl ?_
 simp only [envOf]
 refine tR ?_
 refine tA rfl rfl ?_
 refine tE ?_
 refine tR ?_
 refine tM rfl rfl ?_
 refine tM rfl rfl ?_
 refine At.callP (fun w hw => upTo_p pg v L 2 2 w (ht.mod hw.mod) (hv.mod hw.mod) hl) Tryz.call6 rfl rfl ?_
 refine tA rfl rfl ?_
 refine tE ?_
 refine At.retC ?_
 refine At.ret1 (.inl rfl) rfl rfl rfl (fun w hw => ?_)
 exact ⟨rfl, hw.mod⟩
theorem lawSavedAll_p (pg : Int) (v : Value) (L : List OpT) (w : World) (ht : Tab w) (hv : RdO w v L) (hl : L.length ≤ 140737488355328) :
    PureC Tryz.prog 5 [.int .i64 pg, v] (.bool true) w := by
 refine enter0 Tryz.func5 rfl Tryz.ntmps5 rfl ?_
 simp only [envOf]
 refine tR ?_
 refine tA rfl rfl ?_
 refine tE ?_
 refine tR ?_
 refine tM rfl rfl ?_
 refine tM rfl rfl ?_
 refine At.callP (fun w hw => upTo_p pg v L 1 3 w (ht.mod hw.mod) (hv.mod hw.mod) hl) Tryz.call6 rfl rfl ?_
 refine tA rfl rfl ?_
 refine tE ?_
 refine At.retC ?_
 refine At.ret1 (.inl rfl) rfl rfl rfl (fun w hw => ?_)
 exact ⟨rfl, hw.mod⟩
end Go.Proofs.YthhkbbodhghmcaaGreatDoor
set_option linter.unusedVariables false
set_option linter.unusedSimpArgs false
namespace Go.Wk
open Go Go.ChangeShapes Go.WideShapes Go.ChangeAt Go.RowKit
section
variable {H : Type} {enc : TypeId × Value → H} {P : Program} {W : World} {r : Reach} {base b0 : Nat} {sp : Nat → Bool} {held : Bool}
theorem each_of {p : Nat → Bool} : ∀ {ts : List TypeId} {ds : List (DataW H)} {i : Nat} {t : TypeId} {d : DataW H}, (DataW.weightsEach P ts ds).all p = true → ts[i]? = some t → ds[i]? = some d → (DataW.weights P t d).all p = true
  | t' :: ts, d' :: ds, 0, t, d, h, ht, hd => by
    simp only [DataW.weightsEach, List.all_append, Bool.and_eq_true] at h
    have e1 : t' = t := by simpa using ht
    have e2 : d' = d := by simpa using hd
    subst e1 e2; exact h.1
  | t' :: ts, d' :: ds, i + 1, t, d, h, ht, hd => by
    simp only [DataW.weightsEach, List.all_append, Bool.and_eq_true] at h
    exact each_of h.2 (by simpa using ht) (by simpa using hd)
  | [], ds, i, t, d, h, ht, hd => by simp at ht
  | t' :: ts, [], i, t, d, h, ht, hd => by simp at hd
/-- What a field's one cell is. -/
structure Fld (enc : TypeId × Value → H) (P : Program) (W : World) (r : Reach) (base b0 : Nat) (sp : Nat → Bool) (held : Bool) (t : TypeId) (c : Value) : Prop where
  ok : Cell.okWide P W r base t c
  read : ∃ fuel x, DataW.trod enc P W b0 sp held fuel t [c] = some x ∧ (DataW.weights P t x.1).all (· ≤ reachBytes) = true
theorem Fld.int {t : TypeId} {c : Value} (u : P.underlying t = some (.int .i64)) (h : Fld enc P W r base b0 sp held t c) : ∃ n, c = .int .i64 n ∧ Fits n := by
  obtain ⟨fuel, x, hf, _⟩ := h.read
  obtain ⟨n, g, _, w⟩ := DataW.trod_int u hf
  exact ⟨n, by simpa using g, has64 (by simpa [Lit.wf, IntKind.has] using w)⟩
theorem Fld.word {t : TypeId} {c : Value} (u : P.underlying t = some (.int .u64)) (h : Fld enc P W r base b0 sp held t c) : ∃ x, c = b64 x := by
  obtain ⟨fuel, x, hf, _⟩ := h.read
  obtain ⟨n, g, _, w⟩ := DataW.trod_int u hf
  obtain ⟨x, rfl⟩ := hasU64 (n := n) (by simpa [Lit.wf, IntKind.has] using w)
  exact ⟨x, by simpa using g⟩
theorem Fld.ints {t e : TypeId} {c : Value} (hu : P.underlying t = some (.slice e)) (he : P.underlying e = some (.int .i64)) (hc : P.cellsOf e = 1) (hby : P.bytesOf e = 8)
    (h : Fld enc P W r base b0 sp held t c) : ∃ L : List Int, RdI W c L ∧ L.length ≤ 17592186044416 ∧ ∀ z ∈ L, Fits z := by
  obtain ⟨fuel, x, hf, hw⟩ := h.read
  exact ints_of hu he hc hby (cell_slice hu h.ok) hf hw
theorem words_of {t e : TypeId} {v : Value} {fuel : Nat} {x : DataW H × List MemPlace} (hu : P.underlying t = some (.slice e)) (he : P.underlying e = some (.int .u64)) (hc : P.cellsOf e = 1) (hby : P.bytesOf e = 8)
    (hok : v = .slice none 0 0 ∨ ∃ b o n c, v = .slice (some ⟨b, o, none⟩) n c ∧ n ≤ c) (hf : DataW.trod enc P W b0 sp held fuel t [v] = some x) (hw : (DataW.weights P t x.1).all (· ≤ reachBytes) = true) :
    ∃ L : List (BitVec 64), RdW W v L ∧ L.length ≤ 17592186044416 := by
  rcases hok with rfl | ⟨b, o, n, c, rfl, hnc⟩
  · exact ⟨[], Rd.nil W 1, by simp⟩
  · rcases open_ints hu he hc hf with ⟨h0, _⟩ | ⟨a, len, cap, zs, h0, _, hl, _, hz, hx, hcell, hwf⟩
    · simp at h0
    · simp only [List.cons.injEq, Value.slice.injEq, Option.some.injEq, and_true] at h0
      obtain ⟨rfl, rfl, rfl⟩ := h0
      have hlen : n ≤ zs.length := by rw [hz]; split <;> omega
      have hln : (zs.take n).length = n := by rw [List.length_take]; omega
      have hxe : x.1 = _ := congrArg Prod.fst hx
      have hdw : zs.length * 8 ≤ reachBytes := by
        have hall := List.all_eq_true.1 hw
        rw [hxe] at hall
        unfold DataW.weights at hall
        rw [hu] at hall
        have := hall _ (List.mem_cons_self ..)
        simp only [decide_eq_true_eq, hby, lits, List.length_map] at this
        rw [← List.length_append, List.take_append_drop] at this
        exact this
      refine ⟨(zs.take n).map (BitVec.ofInt 64), ⟨some ⟨b, o, none⟩, c, by rw [List.length_map, hln], fun j u hj => ?_, by rw [List.length_map, Nat.mul_one], by rw [List.length_map, hln]; exact hnc, (fun h => by cases h), (fun _ a ha => by cases ha; rfl)⟩, ?_⟩
      · rw [List.getElem?_map, List.getElem?_map, List.getElem?_take] at hj
        split at hj
        · rename_i hlt
          refine ⟨b, o, rfl, ?_⟩
          have h1 := hcell j (by omega)
          rw [Addr.add_off] at h1
          rw [h1]
          have hjl : j < zs.length := by omega
          rw [List.getElem?_eq_getElem hjl] at hj
          have hg : zs.getD j 0 = zs[j] := by simp [List.getD, hjl]
          rw [hg]
          obtain ⟨q, hq⟩ := hasU64 (n := zs[j]) (by simpa [Lit.wf, IntKind.has] using hwf _ (List.getElem_mem hjl))
          rw [← hj, hq]; simp
        · cases hj
      · rw [List.length_map, hln]; unfold reachBytes at hdw; omega
theorem Fld.words {t e : TypeId} {c : Value} (hu : P.underlying t = some (.slice e)) (he : P.underlying e = some (.int .u64)) (hc : P.cellsOf e = 1) (hby : P.bytesOf e = 8)
    (h : Fld enc P W r base b0 sp held t c) : ∃ L : List (BitVec 64), RdW W c L ∧ L.length ≤ 17592186044416 := by
  obtain ⟨fuel, x, hf, hw⟩ := h.read
  exact words_of hu he hc hby (cell_slice hu h.ok) hf hw
theorem Fld.bytes {t e : TypeId} {c : Value} (hu : P.underlying t = some (.slice e)) (he : P.underlying e = some (.int .u8)) (hc : P.cellsOf e = 1) (hby : P.bytesOf e = 1)
    (h : Fld enc P W r base b0 sp held t c) : ∃ L : List UInt8, RdB W c L ∧ L.length ≤ 140737488351232 := by
  obtain ⟨fuel, x, hf, hw⟩ := h.read
  have hok := cell_slice hu h.ok
  have hv : c.cells.toList = [c] := by rcases hok with rfl | ⟨_, _, _, _, rfl, _⟩ <;> rfl
  obtain ⟨A, cc, l, rfl, hb, hcc, hm, hz, hp⟩ := arg_byteslice (r := r) (base := base) hu he hc hby (by unfold Value.okWide; rw [hu]; exact h.ok) (⟨fuel, by rw [hv]; exact hf⟩ : DataW.Trod enc P W b0 sp held t c x.1 x.2) hw
  exact ⟨l, Bytes.rd hb hcc hz hp, hm⟩
end
end Go.Wk
set_option linter.unusedVariables false
set_option linter.unusedSimpArgs false
namespace Go.Proofs.YthhkbbodhghmcaaGreatDoor
open Go Go.Wk
open Go.ChangeShapes Go.WideShapes Go.ChangeAt Go.RowKit
section
variable {H : Type} {enc : TypeId × Value → H} {P : Program} {W : World} {r : Reach} {base b0 : Nat} {held : Bool}
theorem all_of {p : Nat → Bool} {e : TypeId} : ∀ {ds : List (DataW H)} {i : Nat} {d : DataW H}, (DataW.weightsAll P e ds).all p = true → ds[i]? = some d → (DataW.weights P e d).all p = true
  | d' :: ds, 0, d, h, hd => by
    simp only [DataW.weightsAll, List.all_append, Bool.and_eq_true] at h
    obtain rfl : d' = d := by simpa using hd
    exact h.1
  | d' :: ds, i + 1, d, h, hd => by
    simp only [DataW.weightsAll, List.all_append, Bool.and_eq_true] at h
    exact all_of h.2 (by simpa using hd)
  | [], i, d, h, hd => by simp at hd
/-- What a cell reads as, wherever it stands. -/
def Fl (enc : TypeId × Value → H) (P : Program) (W : World) (b0 : Nat) (held : Bool) (t : TypeId) (c : Value) : Prop :=
  ∃ fuel x, DataW.trod enc P W b0 (fun _ => true) held fuel t [c] = some x ∧ (DataW.weights P t x.1).all (· ≤ reachBytes) = true
theorem Fl.int {t : TypeId} {c : Value} (u : P.underlying t = some (.int .i64)) (h : Fl enc P W b0 held t c) : ∃ n, c = .int .i64 n ∧ Fits n := by
  obtain ⟨fuel, x, hf, _⟩ := h
  obtain ⟨n, g, _, w⟩ := DataW.trod_int u hf
  exact ⟨n, by simpa using g, has64 (by simpa [Lit.wf, IntKind.has] using w)⟩
theorem Fl.word {t : TypeId} {c : Value} (u : P.underlying t = some (.int .u64)) (h : Fl enc P W b0 held t c) : ∃ x, c = b64 x := by
  obtain ⟨fuel, x, hf, _⟩ := h
  obtain ⟨n, g, _, w⟩ := DataW.trod_int u hf
  obtain ⟨x, rfl⟩ := hasU64 (n := n) (by simpa [Lit.wf, IntKind.has] using w)
  exact ⟨x, by simpa using g⟩
theorem Fl.nums {t e : TypeId} {k : IntKind} {c : Value} (hu : P.underlying t = some (.slice e)) (he : P.underlying e = some (.int k)) (hc : P.cellsOf e = 1) (h : Fl enc P W b0 held t c) :
    ∃ zs : List Int, Rd W c 1 zs.length (zs.map (Value.int k)) ∧ zs.length * P.bytesOf e ≤ reachBytes ∧ ∀ z ∈ zs, (Lit.int k z).wf = true := by
  obtain ⟨fuel, x, hf, hw⟩ := h
  rcases open_ints hu he hc hf with ⟨h0, _⟩ | ⟨a, len, cap, zs, h0, _, hl, _, hz, hx, hcell, hwf⟩
  · obtain rfl : c = .slice none 0 0 := by simpa using h0
    exact ⟨[], Rd.nil W 1, by simp, by simp⟩
  · obtain rfl : c = .slice (some a) len cap := by simpa using h0
    simp only [if_true] at hz
    have hxe : x.1 = _ := congrArg Prod.fst hx
    have hdw : zs.length * P.bytesOf e ≤ reachBytes := by
      have hall := List.all_eq_true.1 hw
      rw [hxe] at hall
      unfold DataW.weights at hall
      rw [hu] at hall
      have := hall _ (List.mem_cons_self ..)
      simp only [decide_eq_true_eq, lits, List.length_map] at this
      rw [← List.length_append, List.take_append_drop] at this
      exact this
    have hln : (zs.take len).length = len := by rw [List.length_take]; omega
    have hsp : ∀ j, j < zs.length → a.spot = none := fun j hj => by
      have := World.cell?_spot (hcell 0 (by omega))
      simpa [Addr.add] using this
    refine ⟨zs.take len, ⟨some a, cap, by rw [hln], fun j u hj => ?_, by rw [List.length_map, Nat.mul_one], by omega, (fun h => by cases h), (fun hc0 a' ha => by cases ha; exact hsp 0 (by omega))⟩, Nat.le_trans (Nat.mul_le_mul_right _ (by omega)) hdw, fun z hm => hwf z (List.mem_of_mem_take hm)⟩
    rw [List.getElem?_map, List.getElem?_take] at hj
    split at hj
    · rename_i hlt
      have hjl : j < zs.length := by omega
      have hs := hsp j hjl
      obtain ⟨b, o, s⟩ := a
      have hs' : s = none := hs
      subst hs'
      refine ⟨b, o, rfl, ?_⟩
      have h1 := hcell j hjl
      rw [Addr.add_off] at h1
      rw [h1, ← hj, List.getElem?_eq_getElem hjl]
      simp [List.getD, hjl]
    · cases hj
theorem Fl.ints {t e : TypeId} {c : Value} (hu : P.underlying t = some (.slice e)) (he : P.underlying e = some (.int .i64)) (hc : P.cellsOf e = 1) (hby : P.bytesOf e = 8) (h : Fl enc P W b0 held t c) :
    ∃ L : List Int, RdI W c L ∧ L.length ≤ 17592186044416 := by
  obtain ⟨zs, h1, h2, _⟩ := Fl.nums hu he hc h
  rw [hby] at h2
  unfold reachBytes at h2
  exact ⟨zs, h1, by omega⟩
theorem Fl.bytes {t e : TypeId} {c : Value} (hu : P.underlying t = some (.slice e)) (he : P.underlying e = some (.int .u8)) (hc : P.cellsOf e = 1) (hby : P.bytesOf e = 1) (h : Fl enc P W b0 held t c) :
    ∃ L : List UInt8, RdB W c L ∧ L.length ≤ 140737488355328 := by
  obtain ⟨zs, h1, h2, h3⟩ := Fl.nums hu he hc h
  rw [hby] at h2
  unfold reachBytes at h2
  have he : zs.map (Value.int .u8) = (zs.map (fun z => UInt8.ofNat z.toNat)).map bv := by
    rw [List.map_map]
    refine List.map_congr_left fun z hz => ?_
    obtain ⟨q, rfl⟩ := hasU8 (n := z) (by simpa [Lit.wf, IntKind.has] using h3 z hz)
    simp [bv]
  refine ⟨zs.map (fun z => UInt8.ofNat z.toNat), ?_, by rw [List.length_map]; omega⟩
  unfold RdB
  rw [List.length_map, ← he]
  exact h1
/-- What a list of elements holds, element by element. -/
theorem elems_of {t e : TypeId} {v : Value} {fuel n : Nat} {x : DataW H × List MemPlace} (hu : P.underlying t = some (.slice e)) (hc : P.cellsOf e = n)
    (hf : DataW.trod enc P W b0 (fun _ => true) held fuel t [v] = some x) (hw : (DataW.weights P t x.1).all (· ≤ reachBytes) = true) :
    v = .slice none 0 0 ∨ ∃ a len cap, v = .slice (some a) len cap ∧ len ≤ cap ∧ len * P.bytesOf e ≤ reachBytes ∧ ∀ i, i < len → ∃ cs fuel y, cs.length = n ∧ (∀ j, j < n → W.cell? ((a.add (i * n)).add j) = cs[j]?) ∧ DataW.trod enc P W b0 (fun _ => true) held fuel e cs = some y ∧ (DataW.weights P e y.1).all (· ≤ reachBytes) = true := by
  rcases DataW.trod_slice hu hf with ⟨h0, _⟩ | ⟨a, len, cap, elems, rest, m, _, h0, rfl, hb, hl, hm, hlen, hel, hsp, hns⟩
  · left; simpa using h0
  · right
    refine ⟨a, len, cap, by simpa using h0, hl, ?_, fun i hi => ?_⟩
    · have hall := List.all_eq_true.1 hw
      unfold DataW.weights at hall
      rw [hu] at hall
      have := hall _ (List.mem_cons_self ..)
      simp only [decide_eq_true_eq, List.length_map, hlen] at this
      exact Nat.le_trans (Nat.mul_le_mul_right _ (Nat.le_add_right _ _)) this
    · have h1 := hel i hi
      rw [hc, List.getElem?_eq_getElem (by omega), Option.bind_eq_some_iff] at h1
      obtain ⟨cs, h2, h3⟩ := h1
      have h4 := World.cells?_some h2
      refine ⟨cs, m, _, h4.2.1, h4.2.2, h3, ?_⟩
      · unfold DataW.weights at hw
        rw [hu] at hw
        simp only [List.all_cons, List.all_append, Bool.and_eq_true] at hw
        exact all_of (i := i) hw.2.1 (by rw [List.getElem?_map, List.getElem?_eq_getElem (show i < elems.length by omega)]; rfl)
end
section
variable {H : Type} {enc : TypeId × Value → H} {P : Program} {W : World} {base b0 : Nat} {held : Bool}
/-- What cells in a row read as. -/
def FlL (enc : TypeId × Value → H) (P : Program) (W : World) (b0 : Nat) (held : Bool) (t : TypeId) (cs : List Value) : Prop :=
  ∃ fuel x, DataW.trod enc P W b0 (fun _ => true) held fuel t cs = some x ∧ (DataW.weights P t x.1).all (· ≤ reachBytes) = true
theorem flL_field {t u : TypeId} {fs : Array Field} {cs : List Value} {i o n : Nat} {f : Field} (ht : P.underlying t = some (.struct fs)) (h : FlL enc P W b0 held t cs) (hfi : fs[i]? = some f) (ho : f.offset = o) (hu : f.type = u) (hn : P.cellsOf u = n) : FlL enc P W b0 held u ((cs.drop o).take n) := by
  obtain ⟨fuel, x, hf, hw⟩ := h
  obtain ⟨xs, m, rfl, hx, _, hsz, hfl⟩ := DataW.trod_struct ht hf
  have h1 := hfl i f hfi
  rw [ho, hu, hn] at h1
  have hil : i < fs.size := (Array.getElem?_eq_some_iff.1 hfi).1
  have hxl : i < xs.length := by rw [hsz]; exact hil
  rw [List.getElem?_eq_getElem hxl] at h1
  refine ⟨m, _, h1, ?_⟩
  have hxe : x.1 = _ := congrArg Prod.fst hx
  rw [hxe] at hw
  unfold DataW.weights at hw
  rw [ht] at hw
  refine each_of hw (i := i) ?_ (by rw [List.getElem?_map, List.getElem?_eq_getElem hxl]; rfl)
  rw [List.getElem?_map, Array.getElem?_toList, hfi]
  exact congrArg some hu
theorem slice_spot {t e : TypeId} {fuel n len cap : Nat} {a : Addr} {x : DataW H × List MemPlace} (hu : P.underlying t = some (.slice e)) (hc : P.cellsOf e = n) (hn : 0 < n) (hf : DataW.trod enc P W b0 (fun _ => true) held fuel t [.slice (some a) len cap] = some x) (h0 : 0 < cap) : a.spot = none := by
  rcases DataW.trod_slice hu hf with ⟨h, _⟩ | ⟨a', len', cap', elems, rest, m, _, h1, rfl, hb, hl, hm, hlen, hel, hsp, hns⟩
  · simp at h
  · simp only [List.cons.injEq, Value.slice.injEq, Option.some.injEq, and_true] at h1
    obtain ⟨rfl, rfl, rfl⟩ := h1
    have key : ∀ y, (W.cells? b0 (a.add (0 * P.cellsOf e)) (P.cellsOf e)).bind (DataW.trod enc P W b0 (fun _ => true) held m e) = some y → a.spot = none := fun y hy => by
      rw [hc, Option.bind_eq_some_iff] at hy
      obtain ⟨cs, h2, _⟩ := hy
      have h4 := World.cells?_some h2
      have h5 := h4.2.2 0 hn
      rw [List.getElem?_eq_getElem (by rw [h4.2.1]; exact hn)] at h5
      have := World.cell?_spot h5
      simpa [Addr.add] using this
    rcases Nat.eq_zero_or_pos len with h | h
    · obtain ⟨g1, g2⟩ := hsp rfl
      have g3 := g2 0 (by omega)
      obtain ⟨y, hy⟩ : ∃ y, rest[0]? = some y := ⟨_, List.getElem?_eq_getElem (by omega)⟩
      rw [hy, h, Nat.zero_add] at g3
      exact key _ g3
    · have g3 := hel 0 h
      rw [List.getElem?_eq_getElem (by omega)] at g3
      exact key _ g3
theorem Fl.spans {t e ti : TypeId} {fs : Array Field} {f0 f1 : Field} {c : Value} (hu : P.underlying t = some (.slice e)) (he : P.underlying e = some (.struct fs)) (hc : P.cellsOf e = 2) (hby : P.bytesOf e = 16)
    (hf0 : fs[0]? = some f0) (hf1 : fs[1]? = some f1) (o0 : f0.offset = 0) (o1 : f1.offset = 1) (t0 : f0.type = ti) (t1 : f1.type = ti) (ui : P.underlying ti = some (.int .i64)) (ci : P.cellsOf ti = 1) (h : Fl enc P W b0 held t c) :
    ∃ L : List (Int × Int), RdS W c L ∧ L.length ≤ 8796093022144 := by
  obtain ⟨fuel, x, hf, hw⟩ := h
  rcases elems_of (n := 2) hu hc hf hw with rfl | ⟨a, len, cap, rfl, hlc, hb, hel⟩
  · exact ⟨[], Rd.nil W 2, by simp⟩
  · rw [hby] at hb
    unfold reachBytes at hb
    obtain ⟨L, hLl, hL⟩ := choose_list' (Q := fun j (z : Int × Int) => W.cell? ((a.add (j * 2)).add 0) = some (.int .i64 z.1) ∧ W.cell? ((a.add (j * 2)).add 1) = some (.int .i64 z.2)) len (fun j hj => by
      obtain ⟨cs, fu, y, h1, h2, h3, h4⟩ := hel j hj
      obtain ⟨c0, c1, rfl⟩ : ∃ c0 c1, cs = [c0, c1] := by match cs, h1 with | [c0, c1], _ => exact ⟨c0, c1, rfl⟩
      obtain ⟨n0, rfl, _⟩ := Fl.int ui (flL_field he ⟨fu, y, h3, h4⟩ hf0 o0 t0 ci)
      obtain ⟨n1, rfl, _⟩ := Fl.int ui (flL_field he ⟨fu, y, h3, h4⟩ hf1 o1 t1 ci)
      exact ⟨(n0, n1), h2 0 (by decide), h2 1 (by decide)⟩)
    subst hLl
    have hsp : 0 < cap → a.spot = none := slice_spot hu hc (by decide) hf
    refine ⟨L, ⟨some a, cap, rfl, fun j u hj => ?_, prS_length L, hlc, (fun h => by cases h), (fun hc0 a' ha => by cases ha; exact hsp hc0)⟩, by omega⟩
    have hjl : j < L.length * 2 := by rw [← prS_length L]; exact (List.getElem?_eq_some_iff.1 hj).1
    have hq : L[j / 2]? = some (L[j / 2]'(by omega)) := List.getElem?_eq_getElem _
    have hz := hL (j / 2) _ hq
    have hp := prS_at hq
    have hs := hsp (by omega)
    obtain ⟨b, o, s⟩ := a
    have hs' : s = none := hs
    subst hs'
    refine ⟨b, o, rfl, ?_⟩
    rcases Nat.mod_two_eq_zero_or_one j with hm | hm
    · have e : j / 2 * 2 = j := by omega
      rw [e] at hp hz
      rw [hj] at hp
      rw [Option.some.inj hp.1]
      have := hz.1
      rwa [Addr.add_off, Addr.add_off, Nat.add_zero] at this
    · have e : j / 2 * 2 + 1 = j := by omega
      rw [e] at hp
      rw [hj] at hp
      rw [Option.some.inj hp.2]
      have := hz.2
      rwa [Addr.add_off, Addr.add_off, Nat.add_assoc, e] at this
end
theorem oC_split : ∀ {L : List OpT} {j : Nat} {u : Value}, (oC L)[j]? = some u → ∃ i k o, L[i]? = some o ∧ j = i * 10 + k ∧ k < 10 ∧ (opC o)[k]? = some u
  | [], j, u, h => by simp [oC] at h
  | c :: L, j, u, h => by
    have hh : (opC c ++ oC L)[j]? = some u := h
    rcases Nat.lt_or_ge j 10 with hj | hj
    · rw [List.getElem?_append_left (by exact hj)] at hh
      exact ⟨0, j, c, rfl, by omega, hj, hh⟩
    · rw [List.getElem?_append_right (by exact hj)] at hh
      obtain ⟨i, k, o, h1, h2, h3, h4⟩ := oC_split hh
      exact ⟨i + 1, k, o, by simpa using h1, by have : (opC c).length = 10 := rfl; omega, h3, h4⟩
section
variable {H : Type} {enc : TypeId × Value → H} {W : World} {base b0 : Nat} {held : Bool}
set_option maxRecDepth 100000 in
theorem op_elem {cs : List Value} {fuel : Nat} {y : DataW H × List MemPlace} (hl : cs.length = 10) (hf : DataW.trod enc Tryz.prog W b0 (fun _ => true) held fuel 38 cs = some y) (hw : (DataW.weights Tryz.prog 38 y.1).all (· ≤ reachBytes) = true) :
    ∃ o : OpT, OpOk W o ∧ cs = opC o := by
  obtain ⟨c0, c1, c2, c3, c4, c5, c6, c7, c8, c9, rfl⟩ : ∃ c0 c1 c2 c3 c4 c5 c6 c7 c8 c9, cs = [c0, c1, c2, c3, c4, c5, c6, c7, c8, c9] := by
    match cs, hl with
    | [c0, c1, c2, c3, c4, c5, c6, c7, c8, c9], _ => exact ⟨c0, c1, c2, c3, c4, c5, c6, c7, c8, c9, rfl⟩
  have hr : FlL enc Tryz.prog W b0 held 38 [c0, c1, c2, c3, c4, c5, c6, c7, c8, c9] := ⟨fuel, y, hf, hw⟩
  have U := Tryz.underlying38
  obtain ⟨kd, rfl, _⟩ := Fl.int Tryz.underlying3 (flL_field (i := 0) (o := 0) (n := 1) (u := 3) U hr rfl rfl rfl (by kernel_rfl))
  obtain ⟨ad, rfl, _⟩ := Fl.int Tryz.underlying3 (flL_field (i := 1) (o := 1) (n := 1) (u := 3) U hr rfl rfl rfl (by kernel_rfl))
  obtain ⟨n, rfl, hn⟩ := Fl.int Tryz.underlying3 (flL_field (i := 2) (o := 2) (n := 1) (u := 3) U hr rfl rfl rfl (by kernel_rfl))
  obtain ⟨x, rfl⟩ := Fl.word Tryz.underlying32 (flL_field (i := 3) (o := 3) (n := 1) (u := 32) U hr rfl rfl rfl (by kernel_rfl))
  have hs := flL_field (i := 4) (o := 4) (n := 4) (u := 34) U hr rfl rfl rfl (by kernel_rfl)
  have V := Tryz.underlying34
  obtain ⟨sp, rfl, hp⟩ := Fl.int Tryz.underlying3 (flL_field (i := 0) (o := 0) (n := 1) (u := 3) V hs rfl rfl rfl (by kernel_rfl))
  obtain ⟨si, rfl, _⟩ := Fl.int Tryz.underlying3 (flL_field (i := 1) (o := 1) (n := 1) (u := 3) V hs rfl rfl rfl (by kernel_rfl))
  obtain ⟨sc, rfl, _⟩ := Fl.int Tryz.underlying3 (flL_field (i := 2) (o := 2) (n := 1) (u := 3) V hs rfl rfl rfl (by kernel_rfl))
  obtain ⟨sd, rfl, _⟩ := Fl.int Tryz.underlying3 (flL_field (i := 3) (o := 3) (n := 1) (u := 3) V hs rfl rfl rfl (by kernel_rfl))
  obtain ⟨lS, hS, hSl⟩ := Fl.spans (ti := 3) Tryz.underlying35 Tryz.underlying100 (by kernel_rfl) (by kernel_rfl) rfl rfl rfl rfl rfl rfl Tryz.underlying3 (by kernel_rfl) (flL_field (i := 5) (o := 8) (n := 1) (u := 35) U hr rfl rfl rfl (by kernel_rfl))
  obtain ⟨lI, hI, hIl⟩ := Fl.ints Tryz.underlying36 Tryz.underlying3 (by kernel_rfl) (by kernel_rfl) (flL_field (i := 6) (o := 9) (n := 1) (u := 36) U hr rfl rfl rfl (by kernel_rfl))
  exact ⟨⟨kd, ad, n, x, sp, si, sc, sd, c8, lS, c9, lI⟩, ⟨hS, hI, hSl, hIl, hn.2, hp⟩, rfl⟩
set_option maxRecDepth 100000 in
theorem arg_opts {r : Reach} {v : Value} {d : DataW H} {ps : List MemPlace} (h : Value.okWide Tryz.prog W r base 22 v) (hd : DataW.Trod enc Tryz.prog W b0 (fun _ => true) held 22 v d ps) (hw : (DataW.weights Tryz.prog 22 d).all (· ≤ reachBytes) = true) :
    ∃ L : List OpT, RdO W v L ∧ L.length ≤ 140737488355328 := by
  obtain ⟨fuel, hf⟩ := hd
  have hok := arg_slice Tryz.underlying22 h
  have hv : v.cells.toList = [v] := by rcases hok with rfl | ⟨_, _, _, _, rfl, _⟩ <;> rfl
  rw [hv] at hf
  rcases elems_of (n := 10) Tryz.underlying22 (by kernel_rfl) hf hw with rfl | ⟨a, len, cap, rfl, hlc, hby, hel⟩
  · exact ⟨[], ⟨Rd.nil W 10, by simp⟩, by simp⟩
  · have hby' : Tryz.prog.bytesOf 38 = 112 := by kernel_rfl
    rw [hby'] at hby
    unfold reachBytes at hby
    obtain ⟨b, o, rfl⟩ : ∃ b o, a = ⟨b, o, none⟩ := by
      rcases hok with h0 | ⟨b, o, n, c, h0, _⟩
      · cases h0
      · simp only [Value.slice.injEq, Option.some.injEq] at h0
        exact ⟨b, o, h0.1⟩
    obtain ⟨L, hLl, hL⟩ := choose_list' (Q := fun j (z : OpT) => OpOk W z ∧ ∀ k u, (opC z)[k]? = some u → W.cell? (((⟨b, o, none⟩ : Addr).add (j * 10)).add k) = some u) len (fun j hj => by
      obtain ⟨cs, fu, y, h1, h2, h3, h4⟩ := hel j hj
      obtain ⟨z, hz, rfl⟩ := op_elem h1 h3 h4
      exact ⟨z, hz, fun k u hk => by rw [h2 k (List.getElem?_eq_some_iff.1 hk).1]; exact hk⟩)
    subst hLl
    refine ⟨L, ⟨⟨some ⟨b, o, none⟩, cap, rfl, fun j u hj => ?_, oC_length L, hlc, (fun h => by cases h), (fun _ a ha => by cases ha; rfl)⟩, fun z hm => ?_⟩, by omega⟩
    · obtain ⟨i, k, z, hi, rfl, hk, hu⟩ := oC_split hj
      have := (hL i z hi).2 k u hu
      rw [Addr.add_off, Addr.add_off, Nat.add_assoc] at this
      exact ⟨b, o, rfl, this⟩
    · obtain ⟨i, hi⟩ := List.getElem?_of_mem hm
      exact (hL i z hi).1
end
end Go.Proofs.YthhkbbodhghmcaaGreatDoor
