/- The calculus: an element of an array's value; cells filled from the front. -/
import Derived.Test.YtoiebgnmknbkjaaDoorWt
set_option linter.unusedVariables false
set_option linter.unusedSimpArgs false
namespace Go.Wk
open Go
section
variable {P : Program} {Γ : Ctx} {E : Env} {H : List Res} {dst : Option Tmp} {g : Option (Nat × Bool)} {ty : TypeId} {pos : String} {after : Array Edge} {x y : Operand} {v : Value}
theorem Val.indexVal {t el : TypeId} {len : Nat} {cs : Array Value} {k : IntKind} {j : Int} (hu : P.underlying t = some (.array len el)) (hs : ∀ w, (sizeOf el).run P w = .ok 1 w) (hA : ∀ w, (isAgg el).run P w = .ok false w)
    (hx : ev E x = some (.agg cs)) (hy : ev E y = some (.int k j)) (h0 : 0 ≤ j) (h1 : j < len) (hv : cs[j.toNat]? = some v) : Val P Γ E H ⟨dst, .index t x y, ty, pos, after, g⟩ v := fun a w ha _ => by
  simp [execOp, ha.eval hx, ha.eval hy, Sem.run_bind, Instr.index, asIntOf, run_underlying hu, h0, h1, hs, part, hA, hv]
end
def fillG (l m : List Value) (k : Nat) : List Value := l.take k ++ m.drop k
theorem fillG_zero (l m : List Value) : fillG l m 0 = m := by simp [fillG]
theorem fillG_all {l m : List Value} {n : Nat} (h : l.length = n) (h' : m.length = n) : fillG l m n = l := by
  unfold fillG; rw [List.take_of_length_le (by omega), List.drop_of_length_le (by omega), List.append_nil]
theorem fillG_length {l m : List Value} (h : l.length = m.length) (k : Nat) : (fillG l m k).length = l.length := by
  unfold fillG; simp; omega
theorem fillG_step {l m : List Value} {k : Nat} {c : Value} (hc : l[k]? = some c) (h : l.length = m.length) : (fillG l m k).set k c = fillG l m (k + 1) := by
  have hk : k < l.length := (List.getElem?_eq_some_iff.1 hc).1
  unfold fillG
  rw [List.set_append_right _ _ (by simp; omega), List.length_take, show min k l.length = k by omega, Nat.sub_self, List.drop_eq_getElem_cons (show k < m.length by omega), List.set_cons_zero, List.take_add_one, hc]
  simp
end Go.Wk
