/- The calculus: code, loops, calls, results; regions that draw their order. -/
import Derived.Test.YtoiebgnmknbkjaaDoorWo
import Derived.Deep.LoopGhost
set_option linter.unusedVariables false
set_option linter.unusedSimpArgs false
namespace Go.Wk
open Go
section
variable {P : Program} {Γ : Ctx} {E : Env} {H : List Res} {ops : Array Oper} {Q : Exit → Act → World → Prop} {rest : List Oper} {K : Act → World → Prop}
  {d : Nat} {ty : TypeId} {pos : String} {after : Array Edge} {v u : Value}

/-! ### code -/
theorem At.seq {x y : Code} (k : At Γ E H (x.wp P (Exit.then (y.wp P Q) Q))) : At Γ E H ((Code.seq x y).wp P Q) := fun a w ha hw => wp_seq (k a w ha hw)
theorem At.region {id : Nat} {l : List Oper} (k : At Γ E H (wpList P l.toArray Q l)) : At Γ E H ((Code.region id l.toArray false).wp P Q) := fun a w ha hw => wp_region_lit (k a w ha hw)
theorem At.block {id : Nat} {c : Code} (k : At Γ E H (c.wp P (Exit.inBlock id Q))) : At Γ E H ((Code.block id c).wp P Q) := fun a w ha hw => wp_block (k a w ha hw)
theorem At.skipC (k : At Γ E H (Q .normal)) : At Γ E H (Code.skip.wp P Q) := fun a w ha hw => wp_skip (k a w ha hw)
theorem At.retC (k : At Γ E H (Q .ret)) : At Γ E H (Code.ret.wp P Q) := fun a w ha hw => wp_ret (k a w ha hw)
theorem At.exitC {id : Nat} (k : At Γ E H (Q (.exit id))) : At Γ E H ((Code.exit id).wp P Q) := fun a w ha hw => wp_exit (k a w ha hw)
theorem At.condT {c : Operand} {x y : Code} (hc : ev E c = some (.bool true)) (k : At Γ E H (x.wp P Q)) : At Γ E H ((Code.cond c x y).wp P Q) := fun a w ha hw => wp_cond_true (ha.eval hc) (k a w ha hw)
theorem At.condF {c : Operand} {x y : Code} (hc : ev E c = some (.bool false)) (k : At Γ E H (y.wp P Q)) : At Γ E H ((Code.cond c x y).wp P Q) := fun a w ha hw => wp_cond_false (ha.eval hc) (k a w ha hw)
theorem At.cond {c : Operand} {x y : Code} {b : Bool} (hc : ev E c = some (.bool b)) (k1 : b = true → At Γ E H (x.wp P Q)) (k2 : b = false → At Γ E H (y.wp P Q)) : At Γ E H ((Code.cond c x y).wp P Q) := by
  cases b
  · exact At.condF hc (k2 rfl)
  · exact At.condT hc (k1 rfl)
theorem At.thenN (k : At Γ E H K) : At Γ E H (Exit.then K Q .normal) := k
theorem At.thenR (k : At Γ E H (Q .ret)) : At Γ E H (Exit.then K Q .ret) := k
theorem At.thenX {id : Nat} (k : At Γ E H (Q (.exit id))) : At Γ E H (Exit.then K Q (.exit id)) := k
theorem At.blkN {id : Nat} (k : At Γ E H (Q .normal)) : At Γ E H (Exit.inBlock id Q .normal) := k
theorem At.blkR {id : Nat} (k : At Γ E H (Q .ret)) : At Γ E H (Exit.inBlock id Q .ret) := k
theorem At.blkX {id : Nat} (k : At Γ E H (Q .normal)) : At Γ E H (Exit.inBlock id Q (.exit id)) := fun a w ha hw => by
  have := k a w ha hw
  simpa [Exit.inBlock] using this
theorem At.blkY {id id' : Nat} (hne : Nat.beq id' id = false) (k : At Γ E H (Q (.exit id'))) : At Γ E H (Exit.inBlock id Q (.exit id')) := fun a w ha hw => by
  have := k a w ha hw
  have hne' : id' ≠ id := fun e => by subst e; simp at hne
  simpa [Exit.inBlock, hne'] using this

/-! ### loops -/
/-- The invariant is a family of frames and memories over the ghost s. -/
def Inv (Γ : Ctx) {σ : Type} (inv : σ → Prop) (I : σ → Env) (J : σ → List Res) (m : σ → Nat) (n : Nat) (a : Act) (w : World) : Prop := ∃ s, inv s ∧ m s = n ∧ Agrees Γ.n Γ.D (I s) a ∧ Rep Γ.w0 Γ.S (J s) w
theorem At.loop {σ : Type} (inv : σ → Prop) (I : σ → Env) (J : σ → List Res) (m : σ → Nat) {c : Code} (s0 : σ) (h0 : inv s0) (hE : Sub E (I s0)) (hH : H.Perm (J s0))
    (round : ∀ s, inv s → At Γ (I s) (J s) (c.wp P (Exit.then (fun a w => ∃ n', n' < m s ∧ Inv Γ inv I J m n' a w) Q))) : At Γ E H ((Code.loop c).wp P Q) := fun a w ha hw =>
  wp_loop_ghost (Inv Γ inv I J m) (m s0) ⟨s0, h0, rfl, ha.weaken hE, hw.perm hH⟩ fun n a w ⟨s, hs, hm, ha, hw⟩ => by
    subst hm
    exact round s hs a w ha hw
theorem At.again {σ : Type} {inv : σ → Prop} {I : σ → Env} {J : σ → List Res} {m : σ → Nat} {n : Nat} (s' : σ) (h : inv s') (hm : m s' < n) (hE : Sub E (I s')) (hH : H.Perm (J s')) :
    At Γ E H (fun a w => ∃ n', n' < n ∧ Inv Γ inv I J m n' a w) := fun a w ha hw => ⟨m s', hm, s', h, rfl, ha.weaken hE, hw.perm hH⟩

/-! ### calls -/
def evs (E : Env) : List Operand → Option (List Value)
  | [] => some []
  | x :: l => match ev E x, evs E l with | some v, some vs => some (v :: vs) | _, _ => none
theorem Agrees.evals {n D E} {a : Act} (h : Agrees n D E a) : ∀ {l : List Operand} {vs : List Value}, evs E l = some vs → l.map a.eval = vs
  | [], vs, hv => by simp [evs] at hv; simp [hv]
  | x :: l, vs, hv => by
    simp only [evs] at hv
    split at hv
    · rename_i v us h1 h2
      simp at hv
      subst hv
      simp [h.eval h1, h.evals h2]
    · simp at hv
theorem run_call {n : Nat} {D : List Deferred} {E : Env} {a : Act} (ha : Agrees n D E a) {f : FuncId} {l : List Operand} {vs : List Value} {dst : Option Tmp} {at_ : Array TypeId} {g : Option (Nat × Bool)}
    (hc : ∀ args w, (callFunc f args).run P w = .ok (.enter f args) w) (hv : evs E l = some vs) (w : World) :
    (execOp a.eval ⟨dst, .call { callee := .value (.func f), args := l.toArray, argTypes := at_ }, ty, pos, after, g⟩).run P w = .ok (.enter f vs.toArray) w := by
  have := ha.evals hv
  simp [execOp, resolve, Act.eval, Deferred.ofValue, invoke, Sem.run_bind, this, hc]
theorem At.call {f : FuncId} {l : List Operand} {vs : List Value} {at_ : Array TypeId} (hc : ∀ args w, (callFunc f args).run P w = .ok (.enter f args) w) (hv : evs E l = some vs) (hn : Nat.blt d Γ.n = true)
    (h : ∀ w, Rep Γ.w0 Γ.S H w → Calls P f vs.toArray w fun e w' => ∃ v H', e = .returned v ∧ Rep Γ.w0 Γ.S H' w' ∧ At Γ ((d, v) :: E) H' (wpList P ops Q rest)) :
    At Γ E H (wpList P ops Q ({ dst := some d, op := .call { callee := .value (.func f), args := l.toArray, argTypes := at_ }, type := ty, pos, after, guard := none } :: rest)) := fun a w ha hw => by
  refine wpList_plain rfl fun K hK => ?_
  unfold Oper.wp
  rw [run_call ha hc hv w, Oper.upon_enter]
  refine (h w hw).mono ?_
  rintro e w' ⟨v, H', rfl, hw', k⟩
  exact hK _ _ (k _ _ (ha.put d v hn) hw')
/-- A callee that makes memory at most. -/
def PureC (P : Program) (f : FuncId) (vs : List Value) (v : Value) (w : World) : Prop := Calls P f vs.toArray w fun e w' => e = .returned v ∧ Mod (fun _ => False) w w'
theorem Rep.garbage {w0 S H w w'} (h : Rep w0 S H w) (hm : Mod (fun _ => False) w w') : Rep w0 S H w' :=
  h.mono ⟨by simp, by simp, by simp, hm.mono fun b hb => hb.elim⟩
theorem At.callP {f : FuncId} {l : List Operand} {vs : List Value} {at_ : Array TypeId} (h : ∀ w, Rep Γ.w0 Γ.S H w → PureC P f vs v w) (hc : ∀ args w, (callFunc f args).run P w = .ok (.enter f args) w) (hv : evs E l = some vs) (hn : Nat.blt d Γ.n = true)
    (k : At Γ ((d, v) :: E) H (wpList P ops Q rest)) :
    At Γ E H (wpList P ops Q ({ dst := some d, op := .call { callee := .value (.func f), args := l.toArray, argTypes := at_ }, type := ty, pos, after, guard := none } :: rest)) :=
  At.call hc hv hn fun w hw => (h w hw).mono fun e w' ⟨he, hm⟩ => ⟨v, H, he, hw.garbage hm, k⟩
/-- A callee that changes one resource. -/
def Upd (P : Program) (f : FuncId) (vs : List Value) (r : Res) (v : Value) (r' : Res) (w : World) : Prop := Calls P f vs.toArray w fun e w' => e = .returned v ∧ Rep w (feet [r]) [r'] w'
theorem At.call1 (i : Nat) {r r' : Res} {f : FuncId} {l : List Operand} {vs : List Value} {at_ : Array TypeId} (hi : H[i]? = some r) (h : ∀ w, Rep Γ.w0 Γ.S H w → r.holds w → Upd P f vs r v r' w) (hc : ∀ args w, (callFunc f args).run P w = .ok (.enter f args) w) (hv : evs E l = some vs) (hn : Nat.blt d Γ.n = true)
    (k : At Γ ((d, v) :: E) (H.set i r') (wpList P ops Q rest)) :
    At Γ E H (wpList P ops Q ({ dst := some d, op := .call { callee := .value (.func f), args := l.toArray, argTypes := at_ }, type := ty, pos, after, guard := none } :: rest)) :=
  At.call hc hv hn fun w hw => (h w hw (hw.all _ (List.mem_of_getElem? hi))).mono fun e w' ⟨he, hr⟩ => ⟨v, _, he, Rep.frame1 (X := []) hi hw hr, k⟩

/-! ### entry and end -/
def envOf : Nat → List Value → Env
  | _, [] => []
  | i, v :: vs => (i, v) :: envOf (i + 1) vs
theorem look_envOf : ∀ (vs : List Value) (i t : Nat) (v : Value), look (envOf i vs) t = some v → i ≤ t ∧ vs[t - i]? = some v
  | [], i, t, v, h => by simp [envOf, look] at h
  | x :: vs, i, t, v, h => by
    simp only [envOf, look] at h
    by_cases e : i = t
    · subst e
      simp only [Nat.beq_refl] at h
      exact ⟨Nat.le_refl _, by simpa using h⟩
    · have hb : Nat.beq i t = false := Bool.eq_false_iff.2 fun h => e (Nat.eq_of_beq_eq_true h)
      rw [hb] at h
      obtain ⟨h1, h2⟩ := look_envOf vs (i + 1) t v h
      refine ⟨by omega, ?_⟩
      rw [show t - i = (t - (i + 1)) + 1 by omega]
      simpa using h2
theorem Rep.start {H : List Res} {w : World} (hs : H.Pairwise Apart) (ha : ∀ r ∈ H, r.holds w) : Rep w (feet H) H w :=
  ⟨hs, ha, fun r hr b hb => .inr ⟨r, hr, hb⟩, Mod.refl _ _⟩
theorem enter {f : FuncId} {fn : Func} {c : Code} {vs : List Value} {w : World} {R : Ending → World → Prop} {n : Nat} (S : Nat → Prop) (H : List Res) (hf : P.funcs[f]? = some fn) (hb : fn.body = some c) (hn : fn.ntmps = n) (hl : Nat.ble vs.length n = true)
    (hw : Rep w S H w) (k : At ⟨w, S, n, []⟩ (envOf 0 vs) H (c.wp P (bodyPost P fn R))) : Calls P f vs.toArray w R := by
  refine calls_of_wp hf hb (k _ _ ⟨?_, rfl, fun t v ht => ?_⟩ hw)
  · have : vs.length ≤ n := by simpa using hl
    simp [hn]; omega
  · obtain ⟨_, h2⟩ := look_envOf vs 0 t v ht
    simp only [Nat.sub_zero] at h2
    have : t < vs.length := (List.getElem?_eq_some_iff.1 h2).1
    simp [Array.getElem?_append, this]
    simpa [this] using h2
theorem enter0 {f : FuncId} {fn : Func} {c : Code} {vs : List Value} {w : World} {R : Ending → World → Prop} {n : Nat} (hf : P.funcs[f]? = some fn) (hb : fn.body = some c) (hn : fn.ntmps = n) (hl : Nat.ble vs.length n = true)
    (k : At ⟨w, fun _ => False, n, []⟩ (envOf 0 vs) [] (c.wp P (bodyPost P fn R))) : Calls P f vs.toArray w R :=
  enter (fun _ => False) [] hf hb hn hl ⟨by simp, by simp, by simp, Mod.refl _ _⟩ k
/-- What a result's variable holds at the end. -/
def ResOf (P : Program) (Γ : Ctx) (E : Env) (H : List Res) : ResultVar → Value → Prop
  | .tmp t, v => look E t = some v
  | .cell p T, v => ∃ a, look E p = some (.pointer (some a)) ∧ ∀ w, Rep Γ.w0 Γ.S H w → (loadVar T a).run P w = .ok v w
theorem ResOf.all {p T i b n U : Nat} {cs : List Value} (hA : ∀ w, (isAgg T).run P w = .ok true w) (hs : ∀ w, (sizeOf T).run P w = .ok n w) (hx : look E p = some (.pointer (some ⟨b, 0, none⟩)))
    (hi : H[i]? = some (blk b U cs)) (hl : cs.length = n) : ResOf P Γ E H (.cell p T) (.agg cs.toArray) := ⟨_, hx, fun w hw => by
  have := run_loadAt_part (P := P) hA hs (hw.blk hi) (show 0 + n ≤ cs.length by omega)
  simp only [Instr.loadAt, Instr.sureAddr, Sem.run_bind, Sem.run_pure, Result.andThen_ok] at this
  rw [this, List.drop_zero, ← hl, List.take_length]⟩
theorem ResOf.one {p T i b U : Nat} {cs : List Value} (hA : ∀ w, (isAgg T).run P w = .ok false w) (hx : look E p = some (.pointer (some ⟨b, 0, none⟩)))
    (hi : H[i]? = some (blk b U cs)) (hv : cs[0]? = some v) : ResOf P Γ E H (.cell p T) v := ⟨_, hx, fun w hw => by
  have := run_loadAt_cell (P := P) hA (((hw.blk hi).cell 0).trans hv)
  simpa only [Instr.loadAt, Instr.sureAddr, Sem.run_bind, Sem.run_pure, Result.andThen_ok] using this⟩
def ResAt (P : Program) (tmps : Array Value) (w : World) : ResultVar → Value → Prop
  | .tmp t, v => tmps[t]?.getD undef = v
  | .cell p T, v => ∃ a, tmps[p]?.getD undef = .pointer (some a) ∧ (loadVar T a).run P w = .ok v w
theorem resOne_run {r : ResultVar} (h : ResOf P Γ E H r v) {a : Act} {w : World} (ha : Agrees Γ.n Γ.D E a) (hw : Rep Γ.w0 Γ.S H w) : ResAt P a.tmps w r v := by
  cases r with
  | tmp t => have := ha.get t v h; simp [ResAt, this]
  | cell p T =>
    obtain ⟨ad, h1, h2⟩ := h
    exact ⟨ad, by simp [ha.get p _ h1], h2 w hw⟩
theorem results_one {fn : Func} {r : ResultVar} (hr : fn.results = #[r]) (tmps : Array Value) (w : World) (h : ResAt P tmps w r v) : (results fn tmps).run P w = .ok v w := by
  cases r with
  | tmp t => simp only [ResAt] at h; simp [results, hr, h]
  | cell p T => obtain ⟨a, h1, h2⟩ := h; simp [results, hr, h1, h2, asAddr, Sem.run_bind]
theorem results_two {fn : Func} {r s : ResultVar} (hr : fn.results = #[r, s]) (tmps : Array Value) (w : World) (h : ResAt P tmps w r v) (h' : ResAt P tmps w s u) :
    (results fn tmps).run P w = .ok (.tuple #[v, u]) w := by
  cases r with
  | tmp t =>
    simp only [ResAt] at h
    cases s with
    | tmp t' => simp only [ResAt] at h'; simp [results, hr, h, h']
    | cell p T => obtain ⟨a, h1, h2⟩ := h'; simp [results, hr, h, h1, h2, asAddr, Sem.run_bind]
  | cell p T =>
    obtain ⟨a, h1, h2⟩ := h
    cases s with
    | tmp t' => simp only [ResAt] at h'; simp [results, hr, h1, h2, h', asAddr, Sem.run_bind]
    | cell p' T' => obtain ⟨a', h1', h2'⟩ := h'; simp [results, hr, h1, h2, h1', h2', asAddr, Sem.run_bind]
theorem At.ret0 {fn : Func} {R : Ending → World → Prop} {e : Exit} (he : e = .ret ∨ e = .normal) (hr : fn.results = #[]) (hD : Γ.D = []) (k : ∀ w, Rep Γ.w0 Γ.S H w → R (.returned (.tuple #[])) w) : At Γ E H (bodyPost P fn R e) := fun a w ha hw => by
  have : a.defers = [] ∧ ∃ v, (results fn a.tmps).run P w = .ok v w ∧ R (.returned v) w := ⟨ha.defers.trans hD, _, results_none hr _ _ _, k w hw⟩
  rcases he with rfl | rfl <;> exact this
theorem At.ret1 {fn : Func} {R : Ending → World → Prop} {e : Exit} {r : ResultVar} (he : e = .ret ∨ e = .normal) (hr : fn.results = #[r]) (hD : Γ.D = []) (h : ResOf P Γ E H r v) (k : ∀ w, Rep Γ.w0 Γ.S H w → R (.returned v) w) : At Γ E H (bodyPost P fn R e) := fun a w ha hw => by
  have : a.defers = [] ∧ ∃ v, (results fn a.tmps).run P w = .ok v w ∧ R (.returned v) w := ⟨ha.defers.trans hD, v, results_one hr _ _ (resOne_run h ha hw), k w hw⟩
  rcases he with rfl | rfl <;> exact this
theorem At.ret2 {fn : Func} {R : Ending → World → Prop} {e : Exit} {r s : ResultVar} (he : e = .ret ∨ e = .normal) (hr : fn.results = #[r, s]) (hD : Γ.D = []) (h : ResOf P Γ E H r v) (h' : ResOf P Γ E H s u) (k : ∀ w, Rep Γ.w0 Γ.S H w → R (.returned (.tuple #[v, u])) w) : At Γ E H (bodyPost P fn R e) := fun a w ha hw => by
  have : a.defers = [] ∧ ∃ v, (results fn a.tmps).run P w = .ok v w ∧ R (.returned v) w := ⟨ha.defers.trans hD, _, results_two hr _ _ (resOne_run h ha hw) (resOne_run h' ha hw), k w hw⟩
  rcases he with rfl | rfl <;> exact this
end
end Go.Wk
