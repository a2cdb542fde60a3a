/- The calculus: panics, deferred calls, recover. -/
import Derived.Test.YtoiebgnmknbkjaaDoorWm
import Derived.Recover
import Derived.WideLaws
import Derived.Laws.IdiomStrings
set_option linter.unusedVariables false
set_option linter.unusedSimpArgs false
namespace Go.Wk
open Go
section
variable {P : Program} {Γ : Ctx} {E : Env} {H H' : List Res} {ops : Array Oper} {Q : Exit → Act → World → Prop} {K : Act → World → Prop} {rest : List Oper}
  {d : Nat} {dst : Option Tmp} {g : Option (Nat × Bool)} {ty : TypeId} {pos : String} {after : Array Edge} {x y z : Operand} {v u : Value} {c : List PanicEntry}
/-- What a reader gives up with. -/
abbrev brk (T : TypeId) (e : Int) : List PanicEntry := [{ v := .iface T (.agg #[.int .i64 e]), recovered := false }]
theorem At.panicOp {T : TypeId} (hx : ev E x = some (.iface T v)) (k : At Γ E H (Q (.panic [{ v := .iface T v, recovered := false }]))) :
    At Γ E H (wpList P ops Q ({ dst := none, op := .panic x, type := ty, pos, after, guard := none } :: rest)) := fun a w ha hw => by
  refine wpList_plain rfl fun K hK => ?_
  unfold Oper.wp
  have hr : (execOp a.eval { dst := none, op := .panic x, type := ty, pos, after, guard := none }).run P w = .halt (.panic (.iface T v)) w := by
    simp [execOp, ha.eval hx, Instr.panic, goPanic]
  rw [hr]
  simp only [Oper.upon]
  exact k a w ha hw
theorem Val.mkIface {t : TypeId} {fs : Array Field} (hu : P.underlying t = some (.struct fs)) (hx : ev E x = some v) : Val P Γ E H ⟨dst, .makeInterface t x, ty, pos, after, g⟩ (.iface t v) := fun a w ha hw => by
  simp [execOp, ha.eval hx, Instr.makeInterface, run_underlying hu, Sem.run_bind]
theorem Val.ifNilNil {t t' : TypeId} (h : P.underlying t = some (.interface (P.methodsAt t))) (hx : ev E x = some .nilIface) : Val P Γ E H ⟨dst, .binOp .eql t x (.const .nilIface) t', ty, pos, after, g⟩ (.bool true) := fun a w ha _ => by
  have hc : a.eval (.const .nilIface) = .nilIface := rfl
  simp [execOp, ha.eval hx, hc, eqGuard, run_eql_nil_nil w t h]
theorem Val.ifHeldNil {t t' T : TypeId} (h : P.underlying t = some (.interface (P.methodsAt t))) (hx : ev E x = some (.iface T v)) : Val P Γ E H ⟨dst, .binOp .eql t x (.const .nilIface) t', ty, pos, after, g⟩ (.bool false) := fun a w ha _ => by
  have hc : a.eval (.const .nilIface) = .nilIface := rfl
  simp [execOp, ha.eval hx, hc, eqGuard, run_eql_held_nil w t T v h]
theorem Val.assertIs {xt T : TypeId} {fs : Array Field} (h : P.underlying T = some (.struct fs)) (hx : ev E x = some (.iface T v)) : Val P Γ E H ⟨dst, .typeAssert x xt T true, ty, pos, after, g⟩ (.tuple #[v, .bool true]) := fun a w ha _ => by
  simp [execOp, ha.eval hx, Instr.typeAssert, run_underlying h, Sem.run_bind]
/-- The text of bytes. -/
theorem Val.strOf {s t e n c b o : Nat} {l : List UInt8} (hs : P.underlying s = some (.slice e)) (he : P.underlying e = some (.int .u8)) (ht : P.underlying t = some .string) (hx : ev E x = some (.slice (some ⟨b, o, none⟩) n c)) (hl : l.length = n)
    (hc : ∀ w, Rep Γ.w0 Γ.S H w → Bytes w (some ⟨b, o, none⟩) l) : Val P Γ E H ⟨dst, .convert s t x, ty, pos, after, g⟩ (.string ⟨l.toArray⟩) := fun a w ha hw => by
  subst hl
  have := run_convert_bytes_back (P := P) w s t e ⟨b, o, none⟩ c l hs he ht
    (fun j hj => by
      obtain ⟨b', o', hb, hcell⟩ := hc w hw j l[j] (List.getElem?_eq_getElem hj)
      simp only [Option.some.injEq, Addr.mk.injEq] at hb
      obtain ⟨rfl, rfl, _⟩ := hb
      rw [Addr.add_off]
      exact hcell)
  simp [execOp, ha.eval hx, this]
theorem At.noU {j t : Nat} {b : Bool} {op : Op} (hj : (ops[j]?).bind (·.dst) = some t) (hl : look E t = some undef) (hn : Nat.blt d Γ.n = true)
    (k : At Γ ((d, undef) :: E) H (wpList P ops Q rest)) : At Γ E H (wpList P ops Q ({ dst := some d, op, type := ty, pos, after, guard := some (j, b) } :: rest)) := fun a w ha hw => by
  have hy : yielded ops a.tmps j = none := by simp [yielded, hj, ha.get t _ hl, undef]
  unfold wpList
  rw [if_neg (by simp [Region.wanted, hy])]
  exact k _ _ (ha.put d undef hn) hw
theorem QAt.noU {j t : Nat} {b : Bool} {op : Op} {ψ : Act → Prop} (hj : (ops[j]?).bind (·.dst) = some t) (hl : look E t = some undef) (hn : Nat.blt d Γ.n = true)
    (k : QAt P Γ ops ((d, undef) :: E) H rest ψ) : QAt P Γ ops E H ({ dst := some d, op, type := ty, pos, after, guard := some (j, b) } :: rest) ψ := fun a ha => by
  have hy : yielded ops a.tmps j = none := by simp [yielded, hj, ha.get t _ hl, undef]
  unfold wpQuiet
  rw [if_neg (by simp [Region.wanted, hy])]
  exact k _ (ha.put d undef hn)
theorem At.thenE (k : At Γ E H (Q (.panic c))) : At Γ E H (Exit.then K Q (.panic c)) := k
theorem At.blkE {id : Nat} (k : At Γ E H (Q (.panic c))) : At Γ E H (Exit.inBlock id Q (.panic c)) := k
/-- A callee that gives up, and has made memory at most; one that has spoilt a resource. -/
def Throws0 (P : Program) (f : FuncId) (vs : List Value) (c : List PanicEntry) (w : World) : Prop := Calls P f vs.toArray w fun e w' => e = .panicked c ∧ Mod (fun _ => False) w w'
def Throws1 (P : Program) (f : FuncId) (vs : List Value) (r : Res) (c : List PanicEntry) (w : World) : Prop := Calls P f vs.toArray w fun e w' => e = .panicked c ∧ Rep w (feet [r]) [] w'
theorem At.callT {f : FuncId} {l : List Operand} {vs : List Value} {at_ : Array TypeId} {dst : Option Tmp} (hc : ∀ args w, (callFunc f args).run P w = .ok (.enter f args) w) (hv : evs E l = some vs)
    (h : ∀ w, Rep Γ.w0 Γ.S H w → Calls P f vs.toArray w fun e w' => e = .panicked c ∧ Rep Γ.w0 Γ.S H' w') (k : At Γ E H' (Q (.panic c))) :
    At Γ E H (wpList P ops Q ({ dst := dst, op := .call { callee := .value (.func f), args := l.toArray, argTypes := at_ }, type := ty, pos, after, guard := none } :: rest)) := fun a w ha hw => by
  refine wpList_plain rfl fun K hK => ?_
  unfold Oper.wp
  rw [run_call ha hc hv w, Oper.upon_enter]
  refine (h w hw).mono ?_
  rintro e w' ⟨rfl, hw'⟩
  exact k _ _ ha hw'
theorem At.callT0 {f : FuncId} {l : List Operand} {vs : List Value} {at_ : Array TypeId} {dst : Option Tmp} (h : ∀ w, Rep Γ.w0 Γ.S H w → Throws0 P f vs c w) (hc : ∀ args w, (callFunc f args).run P w = .ok (.enter f args) w) (hv : evs E l = some vs)
    (k : At Γ E H (Q (.panic c))) :
    At Γ E H (wpList P ops Q ({ dst := dst, op := .call { callee := .value (.func f), args := l.toArray, argTypes := at_ }, type := ty, pos, after, guard := none } :: rest)) :=
  At.callT hc hv (fun w hw => (h w hw).mono fun e w' ⟨he, hm⟩ => ⟨he, hw.garbage hm⟩) k
theorem At.callT1 (i : Nat) {r : Res} {f : FuncId} {l : List Operand} {vs : List Value} {at_ : Array TypeId} {dst : Option Tmp} (hi : H[i]? = some r) (h : ∀ w, Rep Γ.w0 Γ.S H w → r.holds w → Throws1 P f vs r c w)
    (hc : ∀ args w, (callFunc f args).run P w = .ok (.enter f args) w) (hv : evs E l = some vs) (k : At Γ E (H.eraseIdx i) (Q (.panic c))) :
    At Γ E H (wpList P ops Q ({ dst := dst, op := .call { callee := .value (.func f), args := l.toArray, argTypes := at_ }, type := ty, pos, after, guard := none } :: rest)) :=
  At.callT hc hv (fun w hw => (h w hw (hw.all _ (List.mem_of_getElem? hi))).mono fun e w' ⟨he, hr⟩ => ⟨he, Rep.frame (H0 := [r]) (H0' := []) (hw.perm (erase_perm H i r hi)) hr⟩) k
theorem At.fail {fn : Func} {R : Ending → World → Prop} (hD : Γ.D = []) (k : ∀ w, Rep Γ.w0 Γ.S H w → R (.panicked c) w) : At Γ E H (bodyPost P fn R (.panic c)) := fun a w ha hw => ⟨ha.defers.trans hD, k w hw⟩
/-! ### deferred calls -/
theorem At.defer {f : FuncId} {l : List Operand} {vs : List Value} {at_ : Array TypeId} (hv : evs E l = some vs) (k : At { Γ with D := { target := .fn (.func f) #[], args := vs.toArray } :: Γ.D } E H (wpList P ops Q rest)) :
    At Γ E H (wpList P ops Q ({ dst := none, op := .defer { callee := .value (.func f), args := l.toArray, argTypes := at_ }, type := ty, pos, after, guard := none } :: rest)) := fun a w ha hw => by
  refine wpList_plain rfl fun K hK => ?_
  unfold Oper.wp
  have := ha.evals hv
  have hr : (execOp a.eval { dst := none, op := .defer { callee := .value (.func f), args := l.toArray, argTypes := at_ }, type := ty, pos, after, guard := none }).run P w = .ok (.defer { target := .fn (.func f) #[], args := vs.toArray }) w := by
    simp [execOp, resolve, Act.eval, Deferred.ofValue, Sem.run_bind, this]
  rw [hr, Oper.upon_defer]
  exact hK _ _ (k _ _ ⟨ha.size, by simp [Act.put, ha.defers], ha.get⟩ hw)
theorem enterD {f : FuncId} {fn : Func} {c : Code} {vs : List Value} {w : World} {R : Ending → World → Prop} {n : Nat} (S : Nat → Prop) (H : List Res) (hf : P.funcs[f]? = some fn) (hb : fn.body = some c) (hn : fn.ntmps = n) (hl : Nat.ble vs.length n = true)
    (hw : Rep w S H w) (k : At ⟨w, S, n, []⟩ (envOf 0 vs) H (c.wp P (bodyPostD P fn R))) : Calls P f vs.toArray w R := by
  refine calls_of_wp_defers hf hb (k _ _ ⟨?_, rfl, fun t v ht => ?_⟩ hw)
  · have : vs.length ≤ n := by simpa using hl
    simp [hn]; omega
  · obtain ⟨_, h2⟩ := look_envOf vs 0 t v ht
    simp only [Nat.sub_zero] at h2
    have : t < vs.length := (List.getElem?_eq_some_iff.1 h2).1
    simp [Array.getElem?_append, this]
    simpa [this] using h2
theorem enterD0 {f : FuncId} {fn : Func} {c : Code} {vs : List Value} {w : World} {R : Ending → World → Prop} {n : Nat} (hf : P.funcs[f]? = some fn) (hb : fn.body = some c) (hn : fn.ntmps = n) (hl : Nat.ble vs.length n = true)
    (k : At ⟨w, fun _ => False, n, []⟩ (envOf 0 vs) [] (c.wp P (bodyPostD P fn R))) : Calls P f vs.toArray w R :=
  enterD (fun _ => False) [] hf hb hn hl ⟨by simp, by simp, by simp, Mod.refl _ _⟩ k
/-- A deferred call that finds nothing to do. -/
def Idle (P : Program) (f : FuncId) (vs : List Value) (w : World) : Prop := CallsD P f vs.toArray .returning w fun e u' w' => e = .returned (.tuple #[]) ∧ u' = .returning ∧ Mod (fun _ => False) w w'
/-- A deferred call that catches what comes up, and turns two resources. -/
def Catches (P : Program) (f : FuncId) (vs : List Value) (c : List PanicEntry) (r s r' s' : Res) (w : World) : Prop :=
  CallsD P f vs.toArray (.panicking c) w fun e u' w' => e = .returned (.tuple #[]) ∧ settle u' = .returning ∧ Rep w (feet [r, s]) [r', s'] w'
theorem run_invoke {f : FuncId} {vs : List Value} (hc : ∀ args w, (callFunc f args).run P w = .ok (.enter f args) w) (w : World) : (invoke (.fn (.func f) #[]) vs.toArray).run P w = .ok (.enter f vs.toArray) w := by
  simp [invoke, hc]
theorem At.leaveN {fn : Func} {R : Ending → World → Prop} {e : Exit} {f : FuncId} {vs : List Value} {r s : ResultVar} (he : e = .ret ∨ e = .normal) (hD : Γ.D = [{ target := .fn (.func f) #[], args := vs.toArray }])
    (hc : ∀ args w, (callFunc f args).run P w = .ok (.enter f args) w) (hidle : ∀ w, Rep Γ.w0 Γ.S H w → Idle P f vs w) (hr : fn.results = #[r, s]) (h : ResOf P Γ E H r v) (h' : ResOf P Γ E H s u)
    (k : ∀ w, Rep Γ.w0 Γ.S H w → R (.returned (.tuple #[v, u])) w) : At Γ E H (bodyPostD P fn R e) := fun a w ha hw => by
  have key : Leaves P fn a.tmps R a.defers .returning w := by
    rw [ha.defers.trans hD]
    refine leaves_cons (by simp) (run_invoke hc w) ((hidle w hw).mono ?_)
    rintro e u' w' ⟨rfl, rfl, hm⟩
    have hw' := hw.garbage hm
    exact ⟨_, results_two hr _ _ (resOne_run h ha hw') (resOne_run h' ha hw'), k w' hw'⟩
  rcases he with rfl | rfl <;> exact key
theorem At.leaveP {fn : Func} {R : Ending → World → Prop} {f : FuncId} {vs : List Value} {r s : ResultVar} {p q p' q' : Res} {F : List Res} (hD : Γ.D = [{ target := .fn (.func f) #[], args := vs.toArray }])
    (hc : ∀ args w, (callFunc f args).run P w = .ok (.enter f args) w) (hH : H.Perm ([p, q] ++ F)) (hcat : ∀ w, Rep Γ.w0 Γ.S ([p, q] ++ F) w → Catches P f vs c p q p' q' w) (hr : fn.results = #[r, s])
    (h : ResOf P Γ E ([p', q'] ++ F) r v) (h' : ResOf P Γ E ([p', q'] ++ F) s u)
    (k : ∀ w, Rep Γ.w0 Γ.S ([p', q'] ++ F) w → R (.returned (.tuple #[v, u])) w) : At Γ E H (bodyPostD P fn R (.panic c)) := fun a w ha hw => by
  have key : Leaves P fn a.tmps R a.defers (.panicking c) w := by
    rw [ha.defers.trans hD]
    refine leaves_cons (by simp) (run_invoke hc w) ((hcat w (hw.perm hH)).mono ?_)
    rintro e u' w' ⟨rfl, hu, hm⟩
    have hw' := Rep.frame (hw.perm hH) hm
    simp only [hu]
    exact ⟨_, results_two hr _ _ (resOne_run h ha hw') (resOne_run h' ha hw'), k w' hw'⟩
  exact key
/-! ### a deferred function that begins with recover -/
theorem enterC {f : FuncId} {fn : Func} {rest : Code} {vs : List Value} {w : World} {R : Ending → World → Prop} {n id : Nat} {um um' : FrameMode} (S : Nat → Prop) (H : List Res)
    (hf : P.funcs[f]? = some fn) (hb : fn.body = some (.seq (.region id #[{ dst := some d, op := .call { callee := .builtin .recover, args := #[], argTypes := #[] }, type := ty, pos, after, guard := none }] false) rest))
    (hn : fn.ntmps = n) (hl : Nat.ble vs.length n = true) (hd : Nat.blt d n = true) (hw : Rep w S H w)
    (hrec : ∀ (c₀ : Frame) (cs : List Frame), c₀.mode = um → recoverD (c₀ :: cs) = some (v, { c₀ with mode := um' } :: cs) ∨ (recoverD (c₀ :: cs) = none ∧ v = .nilIface ∧ um' = um))
    (k : At ⟨w, S, n, []⟩ ((d, v) :: envOf 0 vs) H (rest.wp P (bodyPost P fn R))) : CallsD P f vs.toArray um w (fun e u'' w' => u'' = um' ∧ R e w') := by
  refine callsD_of_wpS hf hb fun c₀ cs hu => ?_
  have ha : Agrees n [] (envOf 0 vs) { tmps := vs.toArray ++ Array.replicate (fn.ntmps - vs.toArray.size) undef, defers := [] } := by
    refine ⟨?_, rfl, fun t v ht => ?_⟩
    · have : vs.length ≤ n := by simpa using hl
      simp [hn]; omega
    · obtain ⟨_, h2⟩ := look_envOf vs 0 t v ht
      simp only [Nat.sub_zero] at h2
      have : t < vs.length := (List.getElem?_eq_some_iff.1 h2).1
      simp [Array.getElem?_append, this]
      simpa [this] using h2
  have hk := k _ w (ha.put d v hd) hw
  have hcs : ({ c₀ with mode := um } : Frame) = c₀ := by subst hu; rfl
  have hpost : ∀ e a' w', bodyPost P fn R e a' w' → bodyPostS P fn c₀ cs (fun e u'' w' => u'' = um' ∧ R e w') e a' ({ c₀ with mode := um' } :: cs) w' := by
    intro e a' w' hq
    cases e with
    | normal => obtain ⟨h1, v, h2, h3⟩ := hq; exact ⟨h1, um', rfl, v, h2, rfl, h3⟩
    | ret => obtain ⟨h1, v, h2, h3⟩ := hq; exact ⟨h1, um', rfl, v, h2, rfl, h3⟩
    | panic ch => exact ⟨hq.1, um', rfl, rfl, hq.2⟩
    | exit id => exact hq.elim
    | goto l => exact hq.elim
    | outgrown => exact ⟨um', rfl, hq⟩
  refine wpS_seq (wpS_region ?_)
  have hrun : ∀ (ρ : Act) w, (execOp ρ.eval { dst := some d, op := .call { callee := .builtin .recover, args := #[], argTypes := #[] }, type := ty, pos, after, guard := none }).run P w = .ok .recover w := fun ρ w => by
    simp [execOp, resolve, invoke, builtin, Sem.run_bind]
  have hr1 : List.range (#[({ dst := some d, op := .call { callee := .builtin .recover, args := #[], argTypes := #[] }, type := ty, pos, after, guard := none } : Oper)]).size = [0] := rfl
  rw [hr1]
  rcases hrec c₀ cs hu with h1 | ⟨h1, rfl, rfl⟩
  · simp only [wpOpsS, List.getElem?_toArray, List.getElem?_cons_zero, Region.wanted, hrun, h1, if_true, Exit.thenS]
    exact wpS_of_wp (wp_mono hk hpost)
  · rw [hcs] at hpost
    simp only [wpOpsS, List.getElem?_toArray, List.getElem?_cons_zero, Region.wanted, hrun, h1, if_true, Exit.thenS]
    exact wpS_of_wp (wp_mono hk hpost)
end
theorem Rep.ne01 {w0 : World} {S : Nat → Prop} {b b' T T' : Nat} {cs cs' : List Value} {F : List Res} {w : World} (h : Rep w0 S (Wk.blk b T cs :: Wk.blk b' T' cs' :: F) w) : b ≠ b' := fun e =>
  (List.pairwise_cons.1 h.sep).1 _ (List.mem_cons_self ..) b rfl e
theorem Rep.apart {w0 : World} {S : Nat → Prop} {b b' T T' : Nat} {cs cs' : List Value} {H : List Res} {w : World} (h : Rep w0 S H w) (i j : Nat) (hi : H[i]? = some (Wk.blk b T cs)) (hj : H[j]? = some (Wk.blk b' T' cs')) (hij : i ≠ j) : b ≠ b' := fun e => by
  obtain ⟨hi', rfl'⟩ := List.getElem?_eq_some_iff.1 hi
  obtain ⟨hj', rfl''⟩ := List.getElem?_eq_some_iff.1 hj
  have hp := List.pairwise_iff_getElem.1 h.sep
  rcases Nat.lt_or_gt_of_ne hij with hlt | hlt
  · have := hp i j hi' hj' hlt
    rw [rfl', rfl''] at this
    exact this b rfl e
  · have := hp j i hj' hi' hlt
    rw [rfl', rfl''] at this
    exact this b' rfl e.symm
end Go.Wk
