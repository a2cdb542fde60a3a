/- The calculus: '==' between arrays of numbers and between structs. -/
import Derived.Test.YtoiebgnmknbkjaaDoorWp
set_option linter.unusedVariables false
set_option linter.unusedSimpArgs false
namespace Go.Wk
open Go
section
variable {P : Program} {Γ : Ctx} {E : Env} {H : List Res} {ops : Array Oper} {Q : Exit → Act → World → Prop} {rest : List Oper}
  {d : Nat} {dst : Option Tmp} {g : Option (Nat × Bool)} {ty : TypeId} {pos : String} {after : Array Edge} {x y z : Operand} {v u : Value}
/-- The loop of '==' over an array of numbers. -/
theorem run_arr_loop {e : TypeId} {k : IntKind} (he : P.underlying e = some (.int k)) (hA : ∀ w, (isAgg e).run P w = .ok false w) (dd : Nat) (xs ys : Array Value) (w : World) : ∀ (n i : Nat) (as bs : List Int),
    as.length = n → bs.length = n → (∀ j, j < n → xs[i + j]? = (as.map (Value.int k))[j]?) → (∀ j, j < n → ys[i + j]? = (bs.map (Value.int k))[j]?) →
    ((forIn (List.range' i n) ((none : Option Bool), PUnit.unit) fun (q : Nat) (r : Option Bool × PUnit) =>
      (do if !(← Op.equalIn (dd + 1) e (← part e xs (q * 1)) (← part e ys (q * 1))) then pure (ForInStep.done (some false, PUnit.unit)) else pure (ForInStep.yield (none, PUnit.unit)) : Sem (ForInStep (Option Bool × PUnit)))).run P w) = .ok (if as = bs then none else some false, PUnit.unit) w := by
  intro n
  induction n with
  | zero => intro i as bs ha hb _ _; simp at ha hb; subst ha; subst hb; simp
  | succ n ih =>
    intro i as bs ha hb hx hy
    match as, bs, ha, hb with
    | a :: as, b :: bs, ha, hb =>
      have h0 := hx 0 (by omega)
      have h1 := hy 0 (by omega)
      simp at h0 h1
      have p0 : (part e xs i).run P w = .ok (.int k a) w := by simp [part, Sem.run_bind, hA, h0]
      have p1 : (part e ys i).run P w = .ok (.int k b) w := by simp [part, Sem.run_bind, hA, h1]
      have he1 := run_equalIn_int (P := P) w dd e k k a b he
      rw [List.range'_succ]
      simp only [List.forIn_cons, Sem.run_bind, Nat.mul_one, p0, p1, Result.andThen_ok, he1]
      by_cases hab : a = b
      · subst hab
        simp only [beq_self_eq_true, Bool.not_true, Bool.false_eq_true, if_false, Sem.run_pure, Result.andThen_ok]
        have := ih (i + 1) as bs (by simpa using ha) (by simpa using hb) (fun j hj => by have := hx (j + 1) (by omega); simpa [Nat.add_assoc, Nat.add_comm 1 j] using this) (fun j hj => by have := hy (j + 1) (by omega); simpa [Nat.add_assoc, Nat.add_comm 1 j] using this)
        simp only [Nat.mul_one] at this
        rw [this]
        simp
      · have : (a == b) = false := by simpa using hab
        simp [this, hab]
theorem run_equal_arr {t e : TypeId} {n : Nat} {k : IntKind} (ht : P.underlying t = some (.array n e)) (he : P.underlying e = some (.int k)) (hA : ∀ w, (isAgg e).run P w = .ok false w) (hs : ∀ w, (sizeOf e).run P w = .ok 1 w)
    (as bs : List Int) (ha : as.length = n) (hb : bs.length = n) (w : World) : (Op.equal t (.agg (as.map (Value.int k)).toArray) (.agg (bs.map (Value.int k)).toArray)).run P w = .ok (decide (as = bs)) w := by
  have key : ∀ dd : Nat, (Op.equalIn (dd + 2) t (.agg (as.map (Value.int k)).toArray) (.agg (bs.map (Value.int k)).toArray)).run P w = .ok (decide (as = bs)) w := fun dd => by
    have hl := run_arr_loop (P := P) he hA dd (as.map (Value.int k)).toArray (bs.map (Value.int k)).toArray w n 0 as bs ha hb (fun j _ => by simp) (fun j _ => by simp)
    rw [Op.equalIn]
    simp only [Sem.run_bind, run_underlying ht, Result.andThen_ok, hs]
    simp only [Std.Legacy.Range.forIn_eq_forIn_range', Std.Legacy.Range.size, Nat.sub_zero, Nat.add_sub_cancel, Nat.div_one]
    rw [hl]
    by_cases h : as = bs
    · simp [h]
    · simp [h]
  exact key 9998
theorem bytes_eq {as bs : List UInt8} : decide ((as.map fun c => (c.toNat : Int)) = bs.map fun c => (c.toNat : Int)) = decide (as = bs) := by
  rw [decide_eq_decide]
  constructor
  · intro h
    induction as generalizing bs with
    | nil => cases bs <;> simp_all
    | cons a as ih =>
      cases bs with
      | nil => simp at h
      | cons b bs =>
        simp only [List.map_cons, List.cons.injEq] at h
        rw [UInt8.toNat_inj.1 (by omega : a.toNat = b.toNat), ih h.2]
  · intro h; rw [h]
theorem run_equal_bytes {t e : TypeId} {n : Nat} (ht : P.underlying t = some (.array n e)) (he : P.underlying e = some (.int .u8)) (hA : ∀ w, (isAgg e).run P w = .ok false w) (hs : ∀ w, (sizeOf e).run P w = .ok 1 w)
    (as bs : List UInt8) (ha : as.length = n) (hb : bs.length = n) (w : World) : (Op.equal t (.agg (as.map bv).toArray) (.agg (bs.map bv).toArray)).run P w = .ok (decide (as = bs)) w := by
  have := run_equal_arr (P := P) ht he hA hs (as.map fun c => (c.toNat : Int)) (bs.map fun c => (c.toNat : Int)) (by simpa using ha) (by simpa using hb) w
  rw [bytes_eq] at this
  simpa [List.map_map, Function.comp_def] using this
theorem Val.eqAgg {t t' : TypeId} {xs ys : Array Value} {b : Bool} (hm : P.eqGuardType P.depth t = false) (hr : ∀ w, (Op.equal t (.agg xs) (.agg ys)).run P w = .ok b w) (hx : ev E x = some (.agg xs)) (hy : ev E y = some (.agg ys)) :
    Val P Γ E H ⟨dst, .binOp .eql t x y t', ty, pos, after, g⟩ (.bool b) := fun a w ha _ => by
  have hg := run_eqGuard_agg (P := P) w .eql t x y xs ys hm
  simp only [execOp, ha.eval hx, ha.eval hy, Sem.run_bind, hg, Result.andThen_ok, binOp, hr, Sem.run_pure]
theorem Val.neAgg {t t' : TypeId} {xs ys : Array Value} {b : Bool} (hm : P.eqGuardType P.depth t = false) (hr : ∀ w, (Op.equal t (.agg xs) (.agg ys)).run P w = .ok b w) (hx : ev E x = some (.agg xs)) (hy : ev E y = some (.agg ys)) :
    Val P Γ E H ⟨dst, .binOp .neq t x y t', ty, pos, after, g⟩ (.bool (!b)) := fun a w ha _ => by
  have hg := run_eqGuard_agg (P := P) w .neq t x y xs ys hm
  simp only [execOp, ha.eval hx, ha.eval hy, Sem.run_bind, hg, Result.andThen_ok, binOp, hr, Sem.run_pure]
end
end Go.Wk
