/- Bytes of words; lists of ints that are read; a star at the front. -/
import Derived.Test.YtgighokkflchmaaDe
set_option linter.unusedVariables false
set_option linter.unusedSimpArgs false
namespace Go.Wk
open Go
def wbytes (xs : List (BitVec 64)) : List UInt8 := xs.flatMap le8
theorem wbytes_cons (x : BitVec 64) (xs : List (BitVec 64)) : wbytes (x :: xs) = le8 x ++ wbytes xs := rfl
theorem wbytes_append (a b : List (BitVec 64)) : wbytes (a ++ b) = wbytes a ++ wbytes b := by simp [wbytes]
theorem wbytes_length : ∀ xs : List (BitVec 64), (wbytes xs).length = 8 * xs.length
  | [] => rfl
  | x :: xs => by rw [wbytes_cons, List.length_append, wbytes_length xs, le_length, List.length_cons]; omega
theorem le8_zero : le8 0 = zs 8 := rfl
theorem wbytes_zero : ∀ n : Nat, wbytes (List.replicate n 0) = zs (8 * n)
  | 0 => rfl
  | n + 1 => by
    rw [List.replicate_succ, wbytes_cons, wbytes_zero n, le8_zero]
    unfold zs
    rw [List.replicate_append_replicate]; congr 1; omega
theorem put8_set {xs : List (BitVec 64)} {k : Nat} (x : BitVec 64) (h : k < xs.length) : put8 (wbytes xs) (8 * k) x = wbytes (xs.set k x) := by
  have e : xs = xs.take k ++ xs[k] :: xs.drop (k + 1) := by rw [← List.drop_eq_getElem_cons h, List.take_append_drop]
  have hl : (wbytes (xs.take k)).length = 8 * k := by rw [wbytes_length, List.length_take]; omega
  have e2 : wbytes xs = wbytes (xs.take k) ++ (le8 xs[k] ++ wbytes (xs.drop (k + 1))) := by conv => lhs; rw [e, wbytes_append, wbytes_cons]
  rw [List.set_eq_take_append_cons_drop, if_pos h, wbytes_append, wbytes_cons]
  unfold put8 putK
  rw [e2, List.take_left' hl, le_take_all, ← List.append_assoc (wbytes (xs.take k)) (le8 xs[k]), List.drop_left' (by rw [List.length_append, hl, le_length]), List.append_assoc]
theorem wbytes_take {xs : List (BitVec 64)} {k : Nat} {x : BitVec 64} (h : xs[k]? = some x) : ((wbytes xs).drop (8 * k)).take 8 = le8 x := by
  have hk := (List.getElem?_eq_some_iff.1 h)
  have e : xs = xs.take k ++ x :: xs.drop (k + 1) := by rw [← hk.2, ← List.drop_eq_getElem_cons hk.1, List.take_append_drop]
  have hl : (wbytes (xs.take k)).length = 8 * k := by rw [wbytes_length, List.length_take]; have := hk.1; omega
  have e2 : wbytes xs = wbytes (xs.take k) ++ (le8 x ++ wbytes (xs.drop (k + 1))) := by conv => lhs; rw [e, wbytes_append, wbytes_cons]
  rw [e2, List.drop_left' hl, List.take_left' (le_length ..)]
theorem wbytes_word {xs : List (BitVec 64)} {k : Nat} {x : BitVec 64} (h : xs[k]? = some x) : wdA (wbytes xs) (8 * k) = x := by
  unfold wdA num
  rw [wbytes_take h]
  exact num_le8 x
theorem take_set_zero {xs : List (BitVec 64)} {k : Nat} {x : BitVec 64} (h : xs[k]? = some x) : (xs.take k ++ List.replicate (xs.length - k) 0).set k x = xs.take (k + 1) ++ List.replicate (xs.length - (k + 1)) 0 := by
  have hk := (List.getElem?_eq_some_iff.1 h).1
  rw [List.set_append_right _ _ (by rw [List.length_take]; omega), List.length_take, show min k xs.length = k by omega, Nat.sub_self]
  obtain ⟨m, hm⟩ : ∃ m, xs.length - k = m + 1 := ⟨xs.length - k - 1, by omega⟩
  rw [hm, List.replicate_succ, List.set_cons_zero, show xs.length - (k + 1) = m from by omega, List.take_add_one, h]
  simp
abbrev RdI (w : World) (v : Value) (l : List Int) : Prop := Rd w v 1 l.length (l.map (Value.int .i64))
section
variable {P : Program} {Γ : Ctx} {E : Env} {H L F : List Res} {ops : Array Oper} {Q : Exit → Act → World → Prop} {rest : List Oper} {w0 w w' : World} {S : Nat → Prop} {φ : Act → World → Prop} {ψ : Act → Prop}
  {d : Nat} {dst : Option Tmp} {gd : Option (Nat × Bool)} {ty : TypeId} {pos : String} {after : Array Edge} {x y z : Operand} {v u : Value}
theorem At.sink5 {a b c e f r : Res} (h : At Γ E (a :: b :: c :: e :: f :: r :: F) φ) : At Γ E (r :: a :: b :: c :: e :: f :: F) φ := fun q w ha hw => h q w ha (hw.perm (List.perm_middle (l₁ := [a, b, c, e, f])).symm)
theorem At.rowCapD {i e sz n c : Nat} {A : Option Addr} {xs : List Value} (hi : H[i]? = some (rowR (.slice A n c) e sz n xs)) (k : n ≤ c → At Γ E H φ) : At Γ E H φ := fun a w ha hw => by
  rcases (hw.row hi).2 with ⟨_, h⟩ | ⟨b, cap, cur, h, h1⟩
  · exact k (by omega) a w ha hw
  · simp only [Value.slice.injEq] at h
    obtain ⟨_, _, rfl⟩ := h
    exact k (by have := h1; omega) a w ha hw
theorem Val.makeFunc2 {fn : FuncId} {x y : Operand} (hx : ev E x = some v) (hy : ev E y = some u) : Val P Γ E H ⟨dst, .makeFunc (.func fn) #[] #[x, y], ty, pos, after, gd⟩ (.func (.func fn) #[] #[v, u]) := fun a w ha _ => by
  simp [execOp, Instr.makeFunc, ha.eval hx, ha.eval hy]
theorem rd_one {sz n : Nat} {xs : List Value} (h : Rd w v sz n xs) : v.cells = [v].toArray := by
  obtain ⟨A, c, rfl, _⟩ := h; rfl
/-- An int of a list that is read. -/
theorem QAt.idxI {t el : Nat} {l : List Int} {k : IntKind} {j : Int} (h : RdI Γ.w0 v l) (hu : P.underlying t = some (.slice el)) (hs : ∀ w, (sizeOf el).run P w = .ok 1 w) (hx : ev E x = some v) (hy : ev E y = some (.int k j)) (h0 : 0 ≤ j) (h1 : j < l.length)
    (hg : gd = none) (hn : Nat.blt d Γ.n = true)
    (c : ∀ b o q, l[j.toNat]? = some q → Γ.w0.cell? ⟨b, o, none⟩ = some (.int .i64 q) → (∃ n' c', v = .slice (some ⟨b, o - j.toNat, none⟩) n' c') → QAt P Γ ops ((d, .pointer (some ⟨b, o, none⟩)) :: E) H rest ψ) :
    QAt P Γ ops E H ({ dst := some d, op := .indexAddr t x y, type := ty, pos, after, guard := gd } :: rest) ψ := by
  obtain ⟨b, o, cap, rfl, hc⟩ := h.at (j := j.toNat) (by omega)
  have hq : l[j.toNat]? = some (l[j.toNat]'(by omega)) := List.getElem?_eq_getElem _
  refine QAt.val (Val.indexSl _ rfl hu hs hx hy h0 h1) hg rfl hn (c b (o + j.toNat * 1) _ hq (hc 0 _ (by rw [Nat.mul_one, Nat.add_zero, List.getElem?_map, hq]; rfl)) ⟨_, _, by rw [Nat.mul_one, Nat.add_sub_cancel]⟩)
end
end Go.Wk
