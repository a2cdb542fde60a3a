/- The calculus: slices that are made. -/
import Derived.Test.YtoiebgnmknbkjaaDoorW3
import Derived.Laws.MakeOwn
import Derived.Laws.OwnMore
set_option linter.unusedVariables false
set_option linter.unusedSimpArgs false
namespace Go.Wk
open Go
section
variable {P : Program} {Γ : Ctx} {E E' : Env} {H : List Res} {ops : Array Oper} {Q : Exit → Act → World → Prop} {rest l : List Oper}
  {d : Nat} {dst : Option Tmp} {ty : TypeId} {pos : String} {after : Array Edge} {x y z : Operand} {v u : Value} {g : Option (Nat × Bool)} {ψ : Act → Prop}
theorem grown_none {w w' : World} (h : w.grownBy w' none) : Mod (fun _ => False) w w' := ⟨h.size, fun b hb _ => h.block b hb (fun e => by cases e), h.os, h.tape, h.output⟩
theorem own_block {w : World} {v : Value} {base e sz n : Nat} {xs : List Value} (h : w.ownsRow base e sz v n xs) : ∀ b, v.ownBlock = some b → base ≤ b := fun b hb => (h.lt b hb).1
theorem own_base {w : World} {v : Value} {base e sz n : Nat} {xs : List Value} (h : w.ownsRow base e sz v n xs) : w.ownsRow 0 e sz v n xs := by
  refine ⟨h.1, ?_⟩
  rcases h.2 with hn | ⟨g, cap, cur, h1, h2, rest⟩
  · exact .inl hn
  · exact .inr ⟨g, cap, cur, h1, Nat.zero_le _, rest⟩
theorem At.makeRow {t e sz n : Nat} {ti : TypeInfo} {zv : Value} {cs : List Value} (ht : P.underlying t = some (.slice e)) (hti : P.info? e = some ti) (hz : ti.zero = some zv) (hsize : ti.size = sz) (hcs : (madeCells zv.cells (n * sz)).toList = cs)
    (hx : ev E x = some (.int .i64 (n : Int))) (hy : ev E y = some (.int .i64 (n : Int))) (hbytes : ti.bytes * n ≤ 281474976710656) (h63 : n ≤ 140737488355328) (hn : Nat.blt d Γ.n = true)
    (k : ∀ v, At Γ ((d, v) :: E) (rowR v e sz n cs :: H) (wpList P ops Q rest)) :
    At Γ E H (wpList P ops Q ({ dst := some d, op := .makeSlice t x y, type := ty, pos, after, guard := none } :: rest)) :=
  At.run rfl rfl hn fun a w ha hw => by
    obtain ⟨w', hr, hown, hg⟩ := run_make_full (P := P) w w.heap.size t e ti zv sz ht hti hz hsize .i64 .i64 n hbytes (by unfold maxLen; omega) (Nat.le_refl _)
    refine ⟨_, w', _, by simp [execOp, ha.eval hx, ha.eval hy, Sem.run_bind, hr], hw.new (r' := rowR _ e sz n cs) (grown_none hg) (by subst hcs; exact own_base hown) (fun b hb => own_block hown b hb), k _⟩
theorem At.makeRow0 {t e sz c : Nat} {ti : TypeInfo} {zv : Value} (ht : P.underlying t = some (.slice e)) (hti : P.info? e = some ti) (hz : ti.zero = some zv) (hsize : ti.size = sz)
    (hx : ev E x = some (.int .i64 0)) (hy : ev E y = some (.int .i64 (c : Int))) (hbytes : ti.bytes * c ≤ 281474976710656) (h63 : c ≤ 140737488355328) (hn : Nat.blt d Γ.n = true)
    (k : ∀ v, At Γ ((d, v) :: E) (rowR v e sz 0 [] :: H) (wpList P ops Q rest)) :
    At Γ E H (wpList P ops Q ({ dst := some d, op := .makeSlice t x y, type := ty, pos, after, guard := none } :: rest)) :=
  At.run rfl rfl hn fun a w ha hw => by
    obtain ⟨w', hr, hown, hg⟩ := run_make_own (P := P) w w.heap.size t e ti zv sz ht hti hz hsize .i64 .i64 c hbytes (by unfold maxLen; omega) (Nat.le_refl _)
    refine ⟨_, w', _, by simp [execOp, ha.eval hx, ha.eval hy, Sem.run_bind, hr], hw.new (r' := rowR _ e sz 0 []) (grown_none hg) (own_base hown) (fun b hb => own_block hown b hb), k _⟩
theorem made_zs (n : Nat) : (madeCells #[Value.int .u8 0] (n * 1)).toList = (zs n).map bv := by
  rw [zs_bv, Nat.mul_one]
  apply List.ext_getElem
  · simp [madeCells]
  · intro i h1 h2
    simp [madeCells, Nat.mod_one]
theorem At.makeRowB {t e n : Nat} {ti : TypeInfo} (ht : P.underlying t = some (.slice e)) (hti : P.info? e = some ti) (hz : ti.zero = some (.int .u8 0)) (hsize : ti.size = 1) (hb : ti.bytes = 1)
    (hx : ev E x = some (.int .i64 (n : Int))) (hy : ev E y = some (.int .i64 (n : Int))) (h63 : n ≤ 140737488355328) (hn : Nat.blt d Γ.n = true)
    (k : ∀ v, At Γ ((d, v) :: E) (brow e v (zs n) :: H) (wpList P ops Q rest)) :
    At Γ E H (wpList P ops Q ({ dst := some d, op := .makeSlice t x y, type := ty, pos, after, guard := none } :: rest)) :=
  At.makeRow ht hti hz hsize (made_zs n) hx hy (by rw [hb]; omega) h63 hn fun v => by
    have := k v
    unfold brow at this
    rwa [zs_length] at this
theorem At.makeRow0B {t e c : Nat} {ti : TypeInfo} (ht : P.underlying t = some (.slice e)) (hti : P.info? e = some ti) (hz : ti.zero = some (.int .u8 0)) (hsize : ti.size = 1) (hb : ti.bytes = 1)
    (hx : ev E x = some (.int .i64 0)) (hy : ev E y = some (.int .i64 (c : Int))) (h63 : c ≤ 140737488355328) (hn : Nat.blt d Γ.n = true)
    (k : ∀ v, At Γ ((d, v) :: E) (brow e v [] :: H) (wpList P ops Q rest)) :
    At Γ E H (wpList P ops Q ({ dst := some d, op := .makeSlice t x y, type := ty, pos, after, guard := none } :: rest)) :=
  At.makeRow0 ht hti hz hsize hx hy (by rw [hb]; omega) h63 hn k
/-- A part of a row. -/
theorem Val.cutRow {i t el e n c l h sz : Nat} {A : Option Addr} {xs : List Value} {lo hi : Option Operand} (hr : H[i]? = some (rowR (.slice A n c) e sz n xs)) (hsz : 0 < sz) (hu : P.underlying t = some (.slice el)) (hs : ∀ w, (sizeOf el).run P w = .ok sz w)
    (hx : ev E x = some (.slice A n c)) (hl : Bd E lo 0 l) (hh : Bd E hi n h) (h1 : l ≤ h) (h2 : h ≤ n) :
    Val P Γ E H ⟨dst, .slice t x lo hi .none, ty, pos, after, g⟩ (.slice (cutA A c l sz) (h - l) (c - l)) := fun a w ha hw =>
  Val.cutRd (Γ := Γ) (H := H) (row_rd (hw.row hr) hsz) hu hs hx hl hh h1 h2 a w ha hw
/-- A byte of a row is turned, or laid. -/
theorem At.storeRowB {i t e q : Nat} {l : List UInt8} {c : UInt8} (hs : ∀ w, (sizeOf t).run P w = .ok 1 w) (hx : ev E x = some (.pointer (some ⟨rowB v, q, none⟩))) (hy : ev E y = some (bv c)) (hi : H[i]? = some (rowR v e 1 l.length (l.map bv))) (hq : q < l.length)
    (k : At Γ E (H.set i (brow e v (l.set q c))) (wpList P ops Q rest)) : At Γ E H (wpList P ops Q ({ dst := .none, op := .store t x y, type := ty, pos, after, guard := none } :: rest)) :=
  At.storeRow hs hx hy rfl hi (by simpa using hq) (by rw [brow_set]; exact k)
end
end Go.Wk
