/- The laws' small functions on devices. -/
import Derived.Test.YtgighokkflchmaaP6
import Derived.Test.YtgighokkflchmaaP9
import Derived.Test.YtgighokkflchmaaDn
set_option linter.unusedVariables false
set_option linter.unusedSimpArgs false
namespace Go.Proofs.Ytgighokkflchmaa
open Go Go.Wk

def sizeW (p : Int) : Nat := 64 * ((p.tmod 8).natAbs + 1)
def wordI (a : Int) (N : Nat) : Nat := (a % (N : Int)).toNat
theorem sizeW_ok (p : Int) : 64 ≤ sizeW p ∧ sizeW p ≤ 512 ∧ sizeW p % 64 = 0 := by
  have h1 := Int.lt_tmod_of_pos p (b := 8) (by decide)
  have h2 := Int.tmod_lt_of_pos p (b := 8) (by decide)
  unfold sizeW; omega
theorem sizeW_size (p : Int) : isSizeB (8 * (sizeW p : Int)) = true := by
  have := sizeW_ok p
  unfold isSizeB; rw [decide_eq_true_eq]; omega
theorem wordI_lt (a : Int) {N : Nat} (h : 0 < N) : wordI a N < N := by
  have h1 := Int.emod_nonneg a (b := (N : Int)) (by omega)
  have h2 := Int.emod_lt_of_pos a (b := (N : Int)) (by omega)
  unfold wordI; omega
theorem tm_em (a : Int) {n : Int} (hn : 0 < n) : a % n = if a.tmod n < 0 then a.tmod n + n else a.tmod n := by
  have h1 := Int.lt_tmod_of_pos a hn
  have h2 := Int.tmod_lt_of_pos a hn
  have h3 := Int.mul_tdiv_add_tmod a n
  split
  · have : a = (a.tmod n + n) + n * (a.tdiv n - 1) := by rw [Int.mul_sub]; omega
    conv => lhs; rw [this]
    rw [Int.add_mul_emod_self_left]
    exact Int.emod_eq_of_lt (by omega) (by omega)
  · conv => lhs; rw [← h3]
    rw [Int.add_comm, Int.add_mul_emod_self_left]
    exact Int.emod_eq_of_lt (by omega) (by omega)
theorem wordI_val (a : Int) {N : Nat} (h : 0 < N) : ((wordI a N : Nat) : Int) = if a.tmod (N : Int) < 0 then a.tmod (N : Int) + N else a.tmod (N : Int) := by
  have h1 := Int.emod_nonneg a (b := (N : Int)) (by omega)
  rw [← tm_em a (by omega : (0 : Int) < N)]
  unfold wordI; omega
/-- A note's step on a device that isn't dead. -/
def noteD (N : Nat) (σ : Ds) (c : Nt) : Ds :=
  if c.1 = 1 then (match σ.ws[wordI c.2.1 N]? with | some w => setD (stepD σ) (wordI c.2.1 N) (pushW w c.2.2) | none => σ)
  else if c.1 = 2 then flushK (stepD σ) (8 * (wordI c.2.1 N / 8)) 8
  else fenceD (stepD σ)
def run (N : Nat) (σ : Ds) (L : List Nt) : Ds := L.foldl (noteD N) σ
theorem noteD_rest {N : Nat} {σ : Ds} (c : Nt) (hN : 0 < N) (hl : σ.ws.length = N) : (noteD N σ c).steps = σ.steps + 1 ∧ (noteD N σ c).armed = σ.armed ∧ (noteD N σ c).left = (if σ.armed then σ.left - 1 else σ.left) ∧ (noteD N σ c).ws.length = N := by
  unfold noteD
  split
  · obtain ⟨w, hw⟩ : ∃ w, σ.ws[wordI c.2.1 N]? = some w := ⟨_, List.getElem?_eq_getElem (by rw [hl]; exact wordI_lt _ hN)⟩
    rw [hw]
    exact ⟨rfl, rfl, rfl, by simpa [setD, stepD] using hl⟩
  · split
    · obtain ⟨h1, h2, h3, h4, _⟩ := flushK_rest (stepD σ) (8 * (wordI c.2.1 N / 8)) 8
      exact ⟨h1, h2, h3, h4.trans hl⟩
    · exact ⟨rfl, rfl, rfl, by simpa [fenceD, stepD] using hl⟩
theorem run_snoc (N : Nat) (σ : Ds) (L : List Nt) (c : Nt) : run N σ (L ++ [c]) = noteD N (run N σ L) c := by simp [run]
theorem run_rest {N : Nat} (hN : 0 < N) : ∀ (L : List Nt) (σ : Ds), σ.ws.length = N → σ.armed = false → (run N σ L).steps = σ.steps + L.length ∧ (run N σ L).armed = false ∧ (run N σ L).ws.length = N
  | [], σ, hl, ha => ⟨rfl, ha, hl⟩
  | c :: L, σ, hl, ha => by
    obtain ⟨h1, h2, h3, h4⟩ := noteD_rest c hN hl
    obtain ⟨g1, g2, g3⟩ := run_rest hN L (noteD N σ c) h4 (h2.trans ha)
    exact ⟨by rw [show run N σ (c :: L) = run N (noteD N σ c) L from rfl, g1, h1, List.length_cons]; omega, g2, g3⟩
theorem dead_of {σ : Ds} (h : σ.armed = false) : deadB σ = false := by unfold deadB; rw [h]; rfl
def storedB (L : List Nt) (k : Nat) (x : BitVec 64) (N : Nat) : Bool := (L.take 400).any fun c => decide (c.1 = 1 ∧ c.2.2 = x ∧ wordI c.2.1 N = k)
def NewDevB (P : Program) (f : FuncId) (vs : List Value) (σ : Ds) (w : World) : Prop := Calls P f vs.toArray w fun e w' => ∃ p γ, e = .returned (.tuple #[.pointer (some ⟨p, 0, none⟩), .bool true]) ∧ Rep w (feet []) [Dev p γ σ] w'
theorem At.callNB {P : Program} {Γ : Ctx} {E : Env} {H : List Res} {ops : Array Oper} {Q : Exit → Act → World → Prop} {rest : List Oper} {d : Nat} {ty : TypeId} {pos : String} {after : Array Edge} {σ : Ds} {f : FuncId} {l : List Operand} {vs : List Value} {at_ : Array TypeId} (h : ∀ w, Rep Γ.w0 Γ.S H w → NewDevB P f vs σ w) (hc : ∀ args w, (callFunc f args).run P w = .ok (.enter f args) w) (hv : evs E l = some vs) (hn : Nat.blt d Γ.n = true)
    (c : ∀ p γ, At Γ ((d, .tuple #[.pointer (some ⟨p, 0, none⟩), .bool true]) :: E) (Dev p γ σ :: H) (wpList P ops Q rest)) :
    At Γ E H (wpList P ops Q ({ dst := some d, op := .call { callee := .value (.func f), args := l.toArray, argTypes := at_ }, type := ty, pos, after, guard := none } :: rest)) :=
  At.call hc hv hn fun w hw => (h w hw).mono fun e w' ⟨p, γ, he, hr⟩ => ⟨_, _, he, by
    have := Rep.frame (H0 := []) (F := H) (by simpa using hw) hr
    simpa using this, c p γ⟩

theorem size_p (p : Int) (w : World) :
    PureC Try.prog 4 [.int .i64 p] (.int .i64 (8 * (sizeW p : Int))) w := by
 refine enter0 Try.func4 rfl Try.ntmps4 rfl ?_
 have h1 := Int.lt_tmod_of_pos p (b := 8) (by decide)
 have h2 := Int.tmod_lt_of_pos p (b := 8) (by decide)
 simp only [envOf]
 refine tR ?_
 refine tA rfl rfl ?_
 refine tE ?_
 refine tR ?_
 refine tM rfl rfl ?_
 refine At.val (Val.rem rfl rfl (by decide)) rfl rfl rfl ?_
 refine tA rfl rfl ?_
 refine tE ?_
 refine At.seq ?_
 refine tR ?_
 refine tM rfl rfl ?_
 refine At.val (Val.bin rfl rfl rfl) rfl rfl rfl ?_
 refine tE ?_
 refine At.cond rfl (fun h1 => ?_) (fun h1 => ?_)
 ·skip
  try simp only [hasB, isSizeB, Bool.not_eq_true', Bool.not_eq_false', bne_iff_ne, ne_eq, bne_eq_false_iff_eq, beq_iff_eq, beq_eq_false_iff_ne, decide_eq_true_eq, decide_eq_false_iff_not, gt_iff_lt, ge_iff_le] at h1
  refine At.region ?_
  refine tM rfl rfl ?_
  refine At.val (Val.neg rfl) rfl rfl rfl ?_
  rw [wrap_i64 (n := 0 - p.tmod 8) (by omega) (by omega)]
  refine tA rfl rfl ?_
  refine tE ?_
  refine tR ?_
  refine tM rfl rfl ?_
  first | refine At.val (Val.addI rfl rfl (by omega) (by omega)) rfl rfl rfl ?_ | refine At.val (Val.bin rfl rfl rfl) rfl rfl rfl ?_
  first | refine At.val (Val.mulI rfl rfl (by omega) (by omega)) rfl rfl rfl ?_ | refine At.val (Val.bin rfl rfl rfl) rfl rfl rfl ?_
  refine tA rfl rfl ?_
  refine tE ?_
  refine At.retC ?_
  refine At.ret1 (.inl rfl) rfl rfl rfl (fun w hw => ?_)
  exact ⟨congrArg (fun z => Ending.returned (Value.int .i64 z)) (by unfold sizeW; omega), hw.mod⟩
 ·skip
  try simp only [hasB, isSizeB, Bool.not_eq_true', Bool.not_eq_false', bne_iff_ne, ne_eq, bne_eq_false_iff_eq, beq_iff_eq, beq_eq_false_iff_ne, decide_eq_true_eq, decide_eq_false_iff_not, gt_iff_lt, ge_iff_le] at h1
  refine At.skipC ?_
  refine At.thenN ?_
  refine tR ?_
  refine tM rfl rfl ?_
  first | refine At.val (Val.addI rfl rfl (by omega) (by omega)) rfl rfl rfl ?_ | refine At.val (Val.bin rfl rfl rfl) rfl rfl rfl ?_
  first | refine At.val (Val.mulI rfl rfl (by omega) (by omega)) rfl rfl rfl ?_ | refine At.val (Val.bin rfl rfl rfl) rfl rfl rfl ?_
  refine tA rfl rfl ?_
  refine tE ?_
  refine At.retC ?_
  refine At.ret1 (.inl rfl) rfl rfl rfl (fun w hw => ?_)
  exact ⟨congrArg (fun z => Ending.returned (Value.int .i64 z)) (by unfold sizeW; omega), hw.mod⟩

theorem word_p (a : Int) (N : Nat) (w : World) (hN : 0 < N) (hN' : N ≤ 65536) :
    PureC Try.prog 7 [.int .i64 a, .int .i64 (8 * (N : Int))] (.int .i64 (8 * (wordI a N : Int))) w := by
 refine enter0 Try.func7 rfl Try.ntmps7 rfl ?_
 have h1 := Int.lt_tmod_of_pos a (b := (N : Int)) (by omega)
 have h2 := Int.tmod_lt_of_pos a (b := (N : Int)) (by omega)
 have hv := wordI_val a hN
 simp only [envOf]
 refine tR ?_
 refine tA rfl rfl ?_
 refine tE ?_
 refine tR ?_
 refine tM rfl rfl ?_
 refine tM rfl rfl ?_
 refine At.val (Val.quoI rfl rfl (by omega) (by omega) (by decide)) rfl rfl rfl ?_
 rw [show 8 * (N : Int) / 8 = (N : Int) from by omega]
 refine At.val (Val.rem rfl rfl (by omega)) rfl rfl rfl ?_
 refine tA rfl rfl ?_
 refine tE ?_
 refine At.seq ?_
 refine tR ?_
 refine tM rfl rfl ?_
 refine At.val (Val.bin rfl rfl rfl) rfl rfl rfl ?_
 refine tE ?_
 refine At.cond rfl (fun h1 => ?_) (fun h1 => ?_)
 ·skip
  try simp only [hasB, isSizeB, Bool.not_eq_true', Bool.not_eq_false', bne_iff_ne, ne_eq, bne_eq_false_iff_eq, beq_iff_eq, beq_eq_false_iff_ne, decide_eq_true_eq, decide_eq_false_iff_not, gt_iff_lt, ge_iff_le] at h1
  rw [if_pos h1] at hv
  refine At.region ?_
  refine tM rfl rfl ?_
  refine tM rfl rfl ?_
  refine At.val (Val.quoI rfl rfl (by omega) (by omega) (by decide)) rfl rfl rfl ?_
  rw [show 8 * (N : Int) / 8 = (N : Int) from by omega]
  first | refine At.val (Val.addI rfl rfl (by omega) (by omega)) rfl rfl rfl ?_ | refine At.val (Val.bin rfl rfl rfl) rfl rfl rfl ?_
  refine tA rfl rfl ?_
  refine tE ?_
  refine tR ?_
  refine tM rfl rfl ?_
  first | refine At.val (Val.mulI rfl rfl (by omega) (by omega)) rfl rfl rfl ?_ | refine At.val (Val.bin rfl rfl rfl) rfl rfl rfl ?_
  refine tA rfl rfl ?_
  refine tE ?_
  refine At.retC ?_
  refine At.ret1 (.inl rfl) rfl rfl rfl (fun w hw => ?_)
  exact ⟨congrArg (fun z => Ending.returned (Value.int .i64 z)) (by omega), hw.mod⟩
 ·skip
  try simp only [hasB, isSizeB, Bool.not_eq_true', Bool.not_eq_false', bne_iff_ne, ne_eq, bne_eq_false_iff_eq, beq_iff_eq, beq_eq_false_iff_ne, decide_eq_true_eq, decide_eq_false_iff_not, gt_iff_lt, ge_iff_le] at h1
  rw [if_neg h1] at hv
  refine At.skipC ?_
  refine At.thenN ?_
  refine tR ?_
  refine tM rfl rfl ?_
  first | refine At.val (Val.mulI rfl rfl (by omega) (by omega)) rfl rfl rfl ?_ | refine At.val (Val.bin rfl rfl rfl) rfl rfl rfl ?_
  refine tA rfl rfl ?_
  refine tE ?_
  refine At.retC ?_
  refine At.ret1 (.inl rfl) rfl rfl rfl (fun w hw => ?_)
  exact ⟨congrArg (fun z => Ending.returned (Value.int .i64 z)) (by omega), hw.mod⟩

theorem made_d (n : Int) (N : Nat) (w : World) (hn : isSizeB n = true) (hN : 8 * (N : Int) = n) :
    NewDevB Try.prog 5 [.int .i64 n] (zeroD N) w := by
 refine enter (feet []) [] Try.func5 rfl Try.ntmps5 rfl ⟨by simp, by simp, by simp, Mod.refl _ _⟩ ?_
 simp only [envOf]
 refine tR ?_
 refine tA rfl rfl ?_
 refine tA rfl rfl ?_
 refine tE ?_
 refine tR ?_
 refine tM rfl rfl ?_
 refine At.callND (fun w hw => new_n _ w hn N hN) Try.call18 rfl rfl (fun p1 y2 => ?_)
 refine tM rfl rfl ?_
 refine At.val (Val.extract rfl rfl) rfl rfl rfl ?_
 refine At.val (Val.extract rfl rfl) rfl rfl rfl ?_
 refine tA rfl rfl ?_
 refine tA rfl rfl ?_
 refine tE ?_
 refine tR ?_
 refine tM rfl rfl ?_
 refine tM rfl rfl ?_
 refine At.val (Val.neNil (t := 25) (by kernel_rfl) rfl) rfl rfl rfl ?_
 refine tM rfl rfl ?_
 refine At.yes rfl rfl ?_
 refine tM rfl rfl ?_
 refine At.yes rfl rfl ?_
 refine At.val (Val.bin rfl rfl rfl) rfl rfl rfl ?_
 refine At.val (Val.pickT rfl rfl) rfl rfl rfl ?_
 refine tA rfl rfl ?_
 refine tA rfl rfl ?_
 refine tE ?_
 refine At.retC ?_
 refine At.ret2 (.inl rfl) rfl rfl rfl rfl (fun w hw => ?_)
 exact ⟨_, _, rfl, hw⟩

theorem loaded_d (v : Value) (l : List UInt8) (w : World) (hv : RdB w v l) (hn : isSizeB (l.length : Int) = true) :
    NewDevB Try.prog 35 [v] (loadD l) w := by
 refine enter (feet []) [] Try.func35 rfl Try.ntmps35 rfl ⟨by simp, by simp, by simp, Mod.refl _ _⟩ ?_
 simp only [envOf]
 refine tR ?_
 refine tA rfl rfl ?_
 refine tA rfl rfl ?_
 refine tE ?_
 refine tR ?_
 refine tM rfl rfl ?_
 refine At.callND (fun w hw => load_d _ _ w (hv.mod hw.modF) hn) Try.call42 rfl rfl (fun p1 y2 => ?_)
 refine tM rfl rfl ?_
 refine At.val (Val.extract rfl rfl) rfl rfl rfl ?_
 refine At.val (Val.extract rfl rfl) rfl rfl rfl ?_
 refine tA rfl rfl ?_
 refine tA rfl rfl ?_
 refine tE ?_
 refine tR ?_
 refine tM rfl rfl ?_
 refine tM rfl rfl ?_
 refine At.val (Val.neNil (t := 25) (by kernel_rfl) rfl) rfl rfl rfl ?_
 refine tM rfl rfl ?_
 refine At.yes rfl rfl ?_
 refine tM rfl rfl ?_
 refine At.yes rfl rfl ?_
 refine At.val (Val.bin rfl rfl rfl) rfl rfl rfl ?_
 refine At.val (Val.pickT rfl rfl) rfl rfl rfl ?_
 refine tA rfl rfl ?_
 refine tA rfl rfl ?_
 refine tE ?_
 refine At.retC ?_
 refine At.ret2 (.inl rfl) rfl rfl rfl rfl (fun w hw => ?_)
 exact ⟨_, _, rfl, hw⟩

theorem note_d (p : Nat) (γ : Gh) (σ : Ds) (c : Nt) (N : Nat) (w : World) (hN : σ.ws.length = N) (hs : σ.steps + 1 ≤ 1099511627776) (hno : deadB σ = false) (hd : (Dev p γ σ).holds w) :
    DevU Try.prog 6 [.pointer (some ⟨p, 0, none⟩), .agg #[.int .i64 c.1, .int .i64 c.2.1, b64 c.2.2], .int .i64 (8 * (N : Int))] p γ σ (.int .i64 0) (noteD N σ c) w := by
 refine enterVc hd Try.func6 rfl Try.ntmps6 rfl ?_
 have hgd := Dev.good hd
 have hps := hgd.pos
 have hln := hgd.len
 have hwl := wordI_lt c.2.1 (N := N) (by omega)
 obtain ⟨wd, hk⟩ : ∃ wd, σ.ws[wordI c.2.1 N]? = some wd := ⟨_, List.getElem?_eq_getElem (by omega)⟩
 simp only [envOf]
 refine tR ?_
 refine At.box rfl rfl rfl (fun b1 => ?_)
 refine tA rfl rfl ?_
 refine tE ?_
 refine tR ?_
 refine At.val (Val.field 1 rfl fo_34_1 rfl) rfl rfl rfl ?_
 refine At.val (Val.load (i := 0) Try.isAgg3 rfl rfl rfl) rfl rfl rfl ?_
 refine tM rfl rfl ?_
 refine At.callP (fun w hw => word_p _ _ w (by omega) (by omega)) Try.call7 rfl rfl ?_
 refine tA rfl rfl ?_
 refine tE ?_
 refine At.seq ?_
 refine tR ?_
 refine At.val (Val.field 0 rfl fo_34_0 rfl) rfl rfl rfl ?_
 refine At.val (Val.load (i := 0) Try.isAgg3 rfl rfl rfl) rfl rfl rfl ?_
 refine tE ?_
 refine At.block ?_
 refine tR ?_
 refine At.val (Val.bin rfl rfl rfl) rfl rfl rfl ?_
 refine tA rfl rfl ?_
 refine tE ?_
 refine At.cond rfl (fun h2 => ?_) (fun h2 => ?_)
 ·skip
  try simp only [hasB, isSizeB, Bool.not_eq_true', Bool.not_eq_false', bne_iff_ne, ne_eq, bne_eq_false_iff_eq, beq_iff_eq, beq_eq_false_iff_ne, decide_eq_true_eq, decide_eq_false_iff_not, gt_iff_lt, ge_iff_le] at h2
  refine tR ?_
  refine tM rfl rfl ?_
  refine tM rfl rfl ?_
  refine At.val (Val.field 2 rfl fo_34_2 rfl) rfl rfl rfl ?_
  refine At.val (Val.load (i := 0) Try.isAgg32 rfl rfl rfl) rfl rfl rfl ?_
  refine At.callD 1 rfl (fun w hw hr => store_d _ _ _ _ wd _ w hk hs hno hr) Try.call19 rfl rfl (fun y3 => ?_)
  simp only [sc0, scS]
  refine tA rfl rfl ?_
  refine tE ?_
  refine tR ?_
  refine tM rfl rfl ?_
  refine tA rfl rfl ?_
  refine tE ?_
  refine At.retC ?_
  refine At.blkR ?_
  refine At.thenR ?_
  refine At.ret1 (.inl rfl) rfl rfl rfl (fun w hw => ?_)
  exact ⟨_, rfl, (show setD (stepD σ) (wordI c.2.1 N) (pushW wd c.2.2) = noteD N σ c from by unfold noteD; rw [if_pos (by omega), hk]) ▸ hw.drop (List.singleton_sublist.2 (List.mem_of_getElem? (i := 1) rfl))⟩
 ·skip
  try simp only [hasB, isSizeB, Bool.not_eq_true', Bool.not_eq_false', bne_iff_ne, ne_eq, bne_eq_false_iff_eq, beq_iff_eq, beq_eq_false_iff_ne, decide_eq_true_eq, decide_eq_false_iff_not, gt_iff_lt, ge_iff_le] at h2
  refine tR ?_
  refine At.val (Val.bin rfl rfl rfl) rfl rfl rfl ?_
  refine tA rfl rfl ?_
  refine tE ?_
  refine At.cond rfl (fun h4 => ?_) (fun h4 => ?_)
  ·skip
   try simp only [hasB, isSizeB, Bool.not_eq_true', Bool.not_eq_false', bne_iff_ne, ne_eq, bne_eq_false_iff_eq, beq_iff_eq, beq_eq_false_iff_ne, decide_eq_true_eq, decide_eq_false_iff_not, gt_iff_lt, ge_iff_le] at h4
   refine tR ?_
   refine tM rfl rfl ?_
   refine tM rfl rfl ?_
   refine At.callD 1 rfl (fun w hw hr => flush_d _ _ _ _ (8 * (wordI c.2.1 N / 8)) w (by omega) (by omega) (by omega) hs hno hr) Try.call20 rfl rfl (fun y5 => ?_)
   simp only [sc0, scS]
   refine tA rfl rfl ?_
   refine tE ?_
   refine tR ?_
   refine tM rfl rfl ?_
   refine tA rfl rfl ?_
   refine tE ?_
   refine At.retC ?_
   refine At.blkR ?_
   refine At.thenR ?_
   refine At.ret1 (.inl rfl) rfl rfl rfl (fun w hw => ?_)
   exact ⟨_, rfl, (show flushK (stepD σ) (8 * (wordI c.2.1 N / 8)) 8 = noteD N σ c from by unfold noteD; rw [if_neg (by omega), if_pos (by omega)]) ▸ hw.drop (List.singleton_sublist.2 (List.mem_of_getElem? (i := 1) rfl))⟩
  ·skip
   try simp only [hasB, isSizeB, Bool.not_eq_true', Bool.not_eq_false', bne_iff_ne, ne_eq, bne_eq_false_iff_eq, beq_iff_eq, beq_eq_false_iff_ne, decide_eq_true_eq, decide_eq_false_iff_not, gt_iff_lt, ge_iff_le] at h4
   refine At.skipC ?_
   refine At.blkN ?_
   refine At.thenN ?_
   refine tR ?_
   refine tM rfl rfl ?_
   refine At.callD 1 rfl (fun w hw hr => fence_d _ _ _ w hs hno hr) Try.call21 rfl rfl (fun y6 => ?_)
   simp only [sc0, scS]
   refine tA rfl rfl ?_
   refine tE ?_
   refine tR ?_
   refine tM rfl rfl ?_
   refine tA rfl rfl ?_
   refine tE ?_
   refine At.retC ?_
   refine At.ret1 (.inl rfl) rfl rfl rfl (fun w hw => ?_)
   exact ⟨_, rfl, (show fenceD (stepD σ) = noteD N σ c from by unfold noteD; rw [if_neg (by omega), if_neg (by omega)]) ▸ hw.drop (List.singleton_sublist.2 (List.mem_of_getElem? (i := 1) rfl))⟩

theorem note_0 (p : Nat) (γ : Gh) (σ : Ds) (c : Nt) (N : Nat) (w : World) (hN : σ.ws.length = N) (hno : deadB σ = true) (hd : (Dev p γ σ).holds w) :
    Upd Try.prog 6 [.pointer (some ⟨p, 0, none⟩), .agg #[.int .i64 c.1, .int .i64 c.2.1, b64 c.2.2], .int .i64 (8 * (N : Int))] (Dev p γ σ) (.int .i64 13) (Dev p γ σ) w := by
 refine enterVc hd Try.func6 rfl Try.ntmps6 rfl ?_
 have hgd := Dev.good hd
 have hps := hgd.pos
 have hln := hgd.len
 have hwl := wordI_lt c.2.1 (N := N) (by omega)
 simp only [envOf]
 refine tR ?_
 refine At.box rfl rfl rfl (fun b1 => ?_)
 refine tA rfl rfl ?_
 refine tE ?_
 refine tR ?_
 refine At.val (Val.field 1 rfl fo_34_1 rfl) rfl rfl rfl ?_
 refine At.val (Val.load (i := 0) Try.isAgg3 rfl rfl rfl) rfl rfl rfl ?_
 refine tM rfl rfl ?_
 refine At.callP (fun w hw => word_p _ _ w (by omega) (by omega)) Try.call7 rfl rfl ?_
 refine tA rfl rfl ?_
 refine tE ?_
 refine At.seq ?_
 refine tR ?_
 refine At.val (Val.field 0 rfl fo_34_0 rfl) rfl rfl rfl ?_
 refine At.val (Val.load (i := 0) Try.isAgg3 rfl rfl rfl) rfl rfl rfl ?_
 refine tE ?_
 refine At.block ?_
 refine tR ?_
 refine At.val (Val.bin rfl rfl rfl) rfl rfl rfl ?_
 refine tA rfl rfl ?_
 refine tE ?_
 refine At.cond rfl (fun h2 => ?_) (fun h2 => ?_)
 ·skip
  try simp only [hasB, isSizeB, Bool.not_eq_true', Bool.not_eq_false', bne_iff_ne, ne_eq, bne_eq_false_iff_eq, beq_iff_eq, beq_eq_false_iff_ne, decide_eq_true_eq, decide_eq_false_iff_not, gt_iff_lt, ge_iff_le] at h2
  refine tR ?_
  refine tM rfl rfl ?_
  refine tM rfl rfl ?_
  refine At.val (Val.field 2 rfl fo_34_2 rfl) rfl rfl rfl ?_
  refine At.val (Val.load (i := 0) Try.isAgg32 rfl rfl rfl) rfl rfl rfl ?_
  refine At.callK 1 rfl (fun w hw hr => store_0 _ _ _ _ _ w (place_at (by omega)) hno hr) Try.call19 rfl rfl ?_
  refine tA rfl rfl ?_
  refine tE ?_
  refine tR ?_
  refine tM rfl rfl ?_
  refine tA rfl rfl ?_
  refine tE ?_
  refine At.retC ?_
  refine At.blkR ?_
  refine At.thenR ?_
  refine At.ret1 (.inl rfl) rfl rfl rfl (fun w hw => ?_)
  exact ⟨rfl, hw.drop (List.singleton_sublist.2 (List.mem_of_getElem? (i := 1) rfl))⟩
 ·skip
  try simp only [hasB, isSizeB, Bool.not_eq_true', Bool.not_eq_false', bne_iff_ne, ne_eq, bne_eq_false_iff_eq, beq_iff_eq, beq_eq_false_iff_ne, decide_eq_true_eq, decide_eq_false_iff_not, gt_iff_lt, ge_iff_le] at h2
  refine tR ?_
  refine At.val (Val.bin rfl rfl rfl) rfl rfl rfl ?_
  refine tA rfl rfl ?_
  refine tE ?_
  refine At.cond rfl (fun h3 => ?_) (fun h3 => ?_)
  ·skip
   try simp only [hasB, isSizeB, Bool.not_eq_true', Bool.not_eq_false', bne_iff_ne, ne_eq, bne_eq_false_iff_eq, beq_iff_eq, beq_eq_false_iff_ne, decide_eq_true_eq, decide_eq_false_iff_not, gt_iff_lt, ge_iff_le] at h3
   refine tR ?_
   refine tM rfl rfl ?_
   refine tM rfl rfl ?_
   refine At.callK 1 rfl (fun w hw hr => flush_0 _ _ _ _ w (by omega) (by omega) hno hr) Try.call20 rfl rfl ?_
   refine tA rfl rfl ?_
   refine tE ?_
   refine tR ?_
   refine tM rfl rfl ?_
   refine tA rfl rfl ?_
   refine tE ?_
   refine At.retC ?_
   refine At.blkR ?_
   refine At.thenR ?_
   refine At.ret1 (.inl rfl) rfl rfl rfl (fun w hw => ?_)
   exact ⟨rfl, hw.drop (List.singleton_sublist.2 (List.mem_of_getElem? (i := 1) rfl))⟩
  ·skip
   try simp only [hasB, isSizeB, Bool.not_eq_true', Bool.not_eq_false', bne_iff_ne, ne_eq, bne_eq_false_iff_eq, beq_iff_eq, beq_eq_false_iff_ne, decide_eq_true_eq, decide_eq_false_iff_not, gt_iff_lt, ge_iff_le] at h3
   refine At.skipC ?_
   refine At.blkN ?_
   refine At.thenN ?_
   refine tR ?_
   refine tM rfl rfl ?_
   refine At.callK 1 rfl (fun w hw hr => fence_0 _ _ _ w hno hr) Try.call21 rfl rfl ?_
   refine tA rfl rfl ?_
   refine tE ?_
   refine tR ?_
   refine tM rfl rfl ?_
   refine tA rfl rfl ?_
   refine tE ?_
   refine At.retC ?_
   refine At.ret1 (.inl rfl) rfl rfl rfl (fun w hw => ?_)
   exact ⟨rfl, hw.drop (List.singleton_sublist.2 (List.mem_of_getElem? (i := 1) rfl))⟩

end Go.Proofs.Ytgighokkflchmaa
