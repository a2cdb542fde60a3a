/- The calculus: lists put behind a row, wherever they stand. -/
import Derived.Test.YtoiebgnmknbkjaaDoorW1
set_option linter.unusedVariables false
set_option linter.unusedSimpArgs false
namespace Go.Wk
open Go
section
variable {P : Program} {Γ : Ctx} {E : Env} {H : List Res} {ops : Array Oper} {Q : Exit → Act → World → Prop} {rest : List Oper}
  {d : Nat} {ty : TypeId} {pos : String} {after : Array Edge} {x y z : Operand} {v u vy : Value} {g : Option (Nat × Bool)}
theorem At.appendRd {i t e sz by_ n m : Nat} {ti : TypeInfo} {z : Value} {xs ys : List Value} (ht : P.underlying t = some (.slice e)) (hti : P.info? e = some ti) (hz : ti.zero = some z) (hsize : ti.size = sz) (hby : ti.bytes = by_) (hzs : z.cells.size = sz) (hsz : Nat.blt 0 sz = true)
    (hx : ev E x = some v) (hy : ev E y = some vy) (hi : H[i]? = some (rowR v e sz n xs)) (hr : Rd Γ.w0 vy sz m ys) (ho : Off vy ys Γ.S) (h1 : ∀ u ∈ ys, u.oneCell' = true) (h63 : (n + m) * by_ ≤ 140737488355328) (h64 : n + m ≤ 140737488355328) (hn : Nat.blt d Γ.n = true)
    (k : ∀ v', At Γ ((d, v') :: E) (H.set i (rowR v' e sz (n + m) (xs ++ ys))) (wpList P ops Q rest)) :
    At Γ E H (wpList P ops Q ({ dst := some d, op := .call { callee := .builtin .append, args := #[x, y], argTypes := #[t, t] }, type := ty, pos, after, guard := none } :: rest)) := by
  have hr0 := hr
  obtain ⟨A, c, rfl, g2, g3, g4, g5, g6⟩ := hr
  refine At.appendSl ht hti hz hsize hby hzs hsz hx hy hi g3 g5 g6 (fun w hw => ?_) h1 h63 h64 hn k
  obtain ⟨A', c', e, q2, _⟩ := hr0.keep hw ho
  simp only [Value.slice.injEq, true_and] at e
  obtain ⟨rfl, rfl⟩ := e
  exact q2
theorem At.appendRow {i j t e e' sz by_ n m : Nat} {ti : TypeInfo} {z : Value} {xs ys : List Value} (ht : P.underlying t = some (.slice e)) (hti : P.info? e = some ti) (hz : ti.zero = some z) (hsize : ti.size = sz) (hby : ti.bytes = by_) (hzs : z.cells.size = sz) (hsz : Nat.blt 0 sz = true)
    (hx : ev E x = some v) (hy : ev E y = some vy) (hi : H[i]? = some (rowR v e sz n xs)) (hj : H[j]? = some (rowR vy e' sz m ys)) (h1 : ∀ u ∈ ys, u.oneCell' = true) (h63 : (n + m) * by_ ≤ 140737488355328) (h64 : n + m ≤ 140737488355328) (hn : Nat.blt d Γ.n = true)
    (k : ∀ v', At Γ ((d, v') :: E) (H.set i (rowR v' e sz (n + m) (xs ++ ys))) (wpList P ops Q rest)) :
    At Γ E H (wpList P ops Q ({ dst := some d, op := .call { callee := .builtin .append, args := #[x, y], argTypes := #[t, t] }, type := ty, pos, after, guard := none } :: rest)) := fun a w ha hw => by
  have hsz' : 0 < sz := by simpa [Nat.blt_eq] using hsz
  have hr := row_rd (hw.row hj) hsz'
  obtain ⟨A, c, rfl, g2, g3, g4, g5, g6⟩ := hr
  refine At.appendSl ht hti hz hsize hby hzs hsz hx hy hi g3 g5 g6 (fun w hw => ?_) h1 h63 h64 hn k a w ha hw
  obtain ⟨A', c', e, q2, _⟩ := row_rd (hw.row hj) hsz'
  simp only [Value.slice.injEq, true_and] at e
  obtain ⟨rfl, rfl⟩ := e
  exact q2
theorem bv_one (l : List UInt8) : ∀ u ∈ l.map bv, u.oneCell' = true := fun u hu => by
  obtain ⟨c, _, rfl⟩ := List.mem_map.1 hu
  rfl
theorem At.appendRdB {i t e by_ : Nat} {ti : TypeInfo} {z : Value} {l m : List UInt8} (ht : P.underlying t = some (.slice e)) (hti : P.info? e = some ti) (hz : ti.zero = some z) (hsize : ti.size = 1) (hby : ti.bytes = by_) (hzs : z.cells.size = 1)
    (hx : ev E x = some v) (hy : ev E y = some vy) (hi : H[i]? = some (rowR v e 1 l.length (l.map bv))) (hr : RdB Γ.w0 vy m) (ho : Off vy (m.map bv) Γ.S) (h63 : (l.length + m.length) * by_ ≤ 140737488355328) (h64 : l.length + m.length ≤ 140737488355328) (hn : Nat.blt d Γ.n = true)
    (k : ∀ v', At Γ ((d, v') :: E) (H.set i (brow e v' (l ++ m))) (wpList P ops Q rest)) :
    At Γ E H (wpList P ops Q ({ dst := some d, op := .call { callee := .builtin .append, args := #[x, y], argTypes := #[t, t] }, type := ty, pos, after, guard := none } :: rest)) :=
  At.appendRd ht hti hz hsize hby hzs rfl hx hy hi hr ho (bv_one m) h63 h64 hn fun v' => by
    have := k v'
    simpa only [brow, List.map_append, List.length_append] using this
theorem At.appendRowB {i j t e e' by_ : Nat} {ti : TypeInfo} {z : Value} {l m : List UInt8} (ht : P.underlying t = some (.slice e)) (hti : P.info? e = some ti) (hz : ti.zero = some z) (hsize : ti.size = 1) (hby : ti.bytes = by_) (hzs : z.cells.size = 1)
    (hx : ev E x = some v) (hy : ev E y = some vy) (hi : H[i]? = some (rowR v e 1 l.length (l.map bv))) (hj : H[j]? = some (rowR vy e' 1 m.length (m.map bv))) (h63 : (l.length + m.length) * by_ ≤ 140737488355328) (h64 : l.length + m.length ≤ 140737488355328) (hn : Nat.blt d Γ.n = true)
    (k : ∀ v', At Γ ((d, v') :: E) (H.set i (brow e v' (l ++ m))) (wpList P ops Q rest)) :
    At Γ E H (wpList P ops Q ({ dst := some d, op := .call { callee := .builtin .append, args := #[x, y], argTypes := #[t, t] }, type := ty, pos, after, guard := none } :: rest)) :=
  At.appendRow ht hti hz hsize hby hzs rfl hx hy hi hj (bv_one m) h63 h64 hn fun v' => by
    have := k v'
    simpa only [brow, List.map_append, List.length_append] using this
/-- A nil slice is a row of no bytes. -/
theorem At.rowNilB (e : Nat) {φ : Act → World → Prop} (k : At Γ E (brow e (.slice none 0 0) [] :: H) φ) : At Γ E H φ := At.rowNil e 1 k
/-- One byte behind a row. -/
theorem At.appendB1 {i j t e by_ b U : Nat} {ti : TypeInfo} {z : Value} {l : List UInt8} {c : UInt8} (ht : P.underlying t = some (.slice e)) (hti : P.info? e = some ti) (hz : ti.zero = some z) (hsize : ti.size = 1) (hby : ti.bytes = by_) (hzs : z.cells.size = 1)
    (hx : ev E x = some v) (hy : ev E y = some (.slice (some ⟨b, 0, none⟩) 1 1)) (hi : H[i]? = some (rowR v e 1 l.length (l.map bv))) (hj : H[j]? = some (blk b U [bv c])) (h63 : (l.length + 1) * by_ ≤ 140737488355328) (h64 : l.length + 1 ≤ 140737488355328) (hn : Nat.blt d Γ.n = true)
    (k : ∀ v', At Γ ((d, v') :: E) (H.set i (brow e v' (l ++ [c]))) (wpList P ops Q rest)) :
    At Γ E H (wpList P ops Q ({ dst := some d, op := .call { callee := .builtin .append, args := #[x, y], argTypes := #[t, t] }, type := ty, pos, after, guard := none } :: rest)) :=
  At.append (i := i) (ys := [bv c]) ht hti hz hsize hby hzs rfl hx hy hi rfl (fun w hw j' u hj' => by rw [Nat.zero_add]; exact ((hw.blk hj).cell j').trans hj') (by simp [Value.oneCell']) h63 h64 hn fun v' => by
    have := k v'
    rw [← brow_snoc] at this
    exact this
/-- A string out of a row, a list. -/
theorem Val.strRd {s t e : Nat} {l : List UInt8} (hs : P.underlying s = some (.slice e)) (he : P.underlying e = some (.int .u8)) (ht : P.underlying t = some .string) (hx : ev E x = some v) (hr : ∀ w, Rep Γ.w0 Γ.S H w → RdB w v l) {dst : Option Tmp} :
    Val P Γ E H ⟨dst, .convert s t x, ty, pos, after, g⟩ (.string ⟨l.toArray⟩) := fun a w ha hw => by
  have h0 := hr w hw
  obtain ⟨A, c, rfl, hb, h1, h2, h3⟩ := h0.bytes
  cases A with
  | none =>
    have hl : l = [] := List.eq_nil_of_length_eq_zero (h2 rfl).1
    subst hl
    have hc : c = 0 := (h2 rfl).2
    subst hc
    simp [execOp, ha.eval hx, convert, Sem.run_bind, run_underlying hs, run_underlying ht, run_underlying he, Conv.bytesToString]
    rfl
  | some a0 =>
    obtain ⟨b, o, s0⟩ := a0
    have : s0 = none := h3 _ rfl
    subst this
    exact Val.strOf (Γ := ⟨w, fun _ => False, Γ.n, Γ.D⟩) (H := []) hs he ht hx rfl (fun w' hw' => hb.mod hw'.mod) a w ha ⟨by simp, by simp, by simp, Mod.refl _ _⟩
end
end Go.Wk
