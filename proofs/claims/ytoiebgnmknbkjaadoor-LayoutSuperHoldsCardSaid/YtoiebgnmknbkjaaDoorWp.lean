/- The calculus: slices that own their rows; text turned into bytes and back; makes and appends. -/
import Derived.Test.YtoiebgnmknbkjaaDoorPb
import Derived.Laws.OwnMore
import Derived.Lib.ConvBytes
import Derived.Laws.BytesArg
set_option linter.unusedVariables false
set_option linter.unusedSimpArgs false
namespace Go.Wk
open Go
/-- A slice's value that owns its row: n elements of sz cells each, whose cells are xs. -/
def rowR (v : Value) (e sz n : Nat) (xs : List Value) : Res where
  foot := fun b => v.ownBlock = some b
  holds := fun w => w.ownsRow 0 e sz v n xs
  stable := fun {w w'} h hw => by
    refine ⟨hw.1, ?_⟩
    rcases hw.2 with hn | ⟨g, cap, cur, rfl, hb, hg, rest⟩
    · exact .inl hn
    · exact .inr ⟨g, cap, cur, rfl, hb, by rw [h g rfl]; exact hg, rest⟩
  low := fun {w} hw b hb => (hw.lt b hb).2
section
variable {P : Program} {Γ : Ctx} {E : Env} {H : List Res} {ops : Array Oper} {Q : Exit → Act → World → Prop} {rest : List Oper}
  {d : Nat} {dst : Option Tmp} {g : Option (Nat × Bool)} {ty : TypeId} {pos : String} {after : Array Edge} {x y z : Operand} {v u : Value} {φ : Act → World → Prop}
/-- A nil slice owns nothing: its row may be put down. -/
theorem At.rowNil (e sz : Nat) (k : At Γ E (rowR (.slice none 0 0) e sz 0 [] :: H) φ) : At Γ E H φ := fun a w ha hw =>
  k a w ha (hw.new (Mod.refl _ _) (World.ownsRow_nil w 0 e sz) (fun b hb => by simp [rowR, Value.ownBlock] at hb))
theorem Val.lenRow {i t el e sz n : Nat} {xs : List Value} (hu : P.underlying t = some (.slice el)) (hx : ev E x = some v) (hi : H[i]? = some (rowR v e sz n xs)) :
    Val P Γ E H ⟨dst, .call { callee := .builtin .len, args := #[x], argTypes := #[t] }, ty, pos, after, g⟩ (.int .i64 n) := fun a w ha hw => by
  have h : w.ownsRow 0 e sz v n xs := hw.all _ (List.mem_of_getElem? hi)
  rcases h.2 with ⟨rfl, rfl⟩ | ⟨b, cap, cur, rfl, _⟩ <;>
  simp [execOp, resolve, invoke, builtin, Builtin.len_, ha.eval hx, Sem.run_bind, run_underlying hu, goInt]
def rowB (v : Value) : Nat := (v.ownBlock).getD 0
theorem Val.indexRow {i t el e sz n : Nat} {xs : List Value} {k : IntKind} {j : Int} (q : Nat) (hq : j.toNat * sz = q) (hu : P.underlying t = some (.slice el)) (hs : ∀ w, (sizeOf el).run P w = .ok sz w) (hx : ev E x = some v) (hy : ev E y = some (.int k j))
    (hi : H[i]? = some (rowR v e sz n xs)) (h0 : 0 ≤ j) (h1 : j < n) : Val P Γ E H ⟨dst, .indexAddr t x y, ty, pos, after, g⟩ (.pointer (some ⟨rowB v, q, none⟩)) := fun a w ha hw => by
  have h : w.ownsRow 0 e sz v n xs := hw.all _ (List.mem_of_getElem? hi)
  rcases h.2 with ⟨rfl, rfl⟩ | ⟨b, cap, cur, rfl, _⟩
  · omega
  · have := Val.indexSl (P := P) (Γ := Γ) (E := E) (H := H) (dst := dst) (g := g) (ty := ty) (pos := pos) (after := after) (y := y) (o := 0) q (by omega) hu hs hx hy h0 h1 a w ha hw
    simpa [rowB, Value.ownBlock] using this
theorem row_cell {w : World} {e sz n : Nat} {xs : List Value} (h : w.ownsRow 0 e sz v n xs) {q : Nat} (hv : xs[q]? = some u) : w.cell? ⟨rowB v, q, none⟩ = some u := by
  have hlt : q < xs.length := (List.getElem?_eq_some_iff.1 hv).1
  rcases h.2 with ⟨rfl, rfl⟩ | ⟨b, cap, cur, rfl, _, hg, _, _, _, ht⟩
  · have := h.1; simp at this; subst this; simp at hlt
  · simp only [rowB, Value.ownBlock, Option.getD_some]
    rw [cell_of_row w b q cur e (0, 0) hg]
    rw [← ht, List.getElem?_take] at hv
    split at hv
    · simpa using hv
    · cases hv
theorem row_frozen {w : World} {e sz n : Nat} {xs : List Value} (h : w.ownsRow 0 e sz v n xs) {q : Nat} (hv : xs[q]? = some u) : w.frozen? ⟨rowB v, q, none⟩ = false := by
  have hlt : q < xs.length := (List.getElem?_eq_some_iff.1 hv).1
  rcases h.2 with ⟨rfl, rfl⟩ | ⟨b, cap, cur, rfl, _, hg, _, _, _, ht⟩
  · have := h.1; simp at this; subst this; simp at hlt
  · exact frozen_of_row w b q cur e hg
theorem Val.loadRow {i t e sz n q : Nat} {xs : List Value} (hA : ∀ w, (isAgg t).run P w = .ok false w) (hx : ev E x = some (.pointer (some ⟨rowB v, q, none⟩))) (hi : H[i]? = some (rowR v e sz n xs)) (hv : xs[q]? = some u) :
    Val P Γ E H ⟨dst, .load t x, ty, pos, after, g⟩ u := fun a w ha hw => by
  have := run_loadAt_cell (P := P) hA (row_cell (hw.all _ (List.mem_of_getElem? hi)) hv)
  simp [execOp, ha.eval hx, Sem.run_bind, this]
/-- A row that isn't nil is a block. -/
theorem row_set {w : World} {e sz n : Nat} {xs : List Value} (h : w.ownsRow 0 e sz v n xs) {q : Nat} (hq : q < xs.length) (u : Value) : (w.setCell ⟨rowB v, q, none⟩ u).ownsRow 0 e sz v n (xs.set q u) := by
  rcases h.2 with ⟨rfl, rfl⟩ | ⟨b, cap, cur, rfl, hb, hg, hn, hm, hs, ht⟩
  · have := h.1; simp at this; subst this; simp at hq
  · refine ⟨by simpa using h.1, .inr ⟨b, cap, cur.setIfInBounds q u, rfl, hb, ?_, hn, hm, by simpa using hs, ?_⟩⟩
    · simp only [rowB, Value.ownBlock, Option.getD_some]
      exact heap_setCell_same w b q cur e u hg
    · rw [← ht]
      simp [List.take_set]
theorem At.storeRow {i t e sz n q : Nat} {xs : List Value} (hs : ∀ w, (sizeOf t).run P w = .ok 1 w) (hx : ev E x = some (.pointer (some ⟨rowB v, q, none⟩))) (hy : ev E y = some u) (h1 : u.oneCell' = true) (hi : H[i]? = some (rowR v e sz n xs)) (hq : q < xs.length)
    (k : At Γ E (H.set i (rowR v e sz n (xs.set q u))) (wpList P ops Q rest)) : At Γ E H (wpList P ops Q ({ dst := .none, op := .store t x y, type := ty, pos, after, guard := none } :: rest)) :=
  At.skip rfl rfl fun a w ha hw => by
    have h : w.ownsRow 0 e sz v n xs := hw.all _ (List.mem_of_getElem? hi)
    have hc := row_cell h (List.getElem?_eq_getElem hq)
    have hr := run_storeAt_cell (P := P) hs h1 hc (row_frozen h (List.getElem?_eq_getElem hq))
    refine ⟨_, _, by simp [execOp, ha.eval hx, ha.eval hy, Sem.run_bind, hr], hw.change (r' := rowR v e sz n (xs.set q u)) hi ((Mod.setCell w _ _).mono fun b hb => ?_) (row_set h hq u) (fun b hb => .inl hb), k⟩
    rcases h.2 with ⟨rfl, rfl⟩ | ⟨c, cap, cur, rfl, _⟩
    · have := h.1; simp at this; subst this; simp at hq
    · subst hb; rfl
theorem At.rowIs {i e sz n : Nat} {xs : List Value} (hi : H[i]? = some (rowR v e sz n xs)) (k : ∀ A c, v = .slice A n c → At Γ E H φ) : At Γ E H φ := fun a w ha hw => by
  have h : w.ownsRow 0 e sz v n xs := hw.all _ (List.mem_of_getElem? hi)
  rcases h.2 with ⟨rfl, rfl⟩ | ⟨b, cap, cur, rfl, _⟩
  · exact k _ _ rfl a w ha hw
  · exact k _ _ rfl a w ha hw
theorem row_bytes {w : World} {A : Option Addr} {e n c : Nat} {l : List UInt8} (h : w.ownsRow 0 e 1 (.slice A n c) n (l.map bv)) : Bytes w A l := fun k u hk => by
  have hc := row_cell (u := bv u) h (q := k) (by simp [hk])
  rcases h.2 with ⟨h1, rfl⟩ | ⟨b, cap, cur, h1, _⟩
  · have := h.1; simp at this; subst this; simp at hk
  · simp only [Value.slice.injEq] at h1
    obtain ⟨rfl, _, _⟩ := h1
    exact ⟨b, 0, rfl, by simpa [rowB, Value.ownBlock] using hc⟩
theorem row_len {w : World} {v : Value} {e n : Nat} {l : List UInt8} (h : w.ownsRow 0 e 1 v n (l.map bv)) : l.length = n := by have := h.1; simpa using this
theorem Rep.row {w0 S H w} (h : Rep w0 S H w) {i e sz n : Nat} {v : Value} {xs : List Value} (hi : H[i]? = some (rowR v e sz n xs)) : w.ownsRow 0 e sz v n xs := h.all _ (List.mem_of_getElem? hi)
/-! ### append -/
theorem grown_mod {w w' : World} {v : Value} (h : w.grownBy w' v.ownBlock) : Mod (fun b => v.ownBlock = some b) w w' :=
  ⟨h.size, fun b hb hn => h.block b hb (fun e => hn e.symm), h.os, h.tape, h.output⟩
theorem own_new {w w' : World} {v v' : Value} {e sz n m : Nat} {xs ys : List Value} (h : w.ownsRow 0 e sz v n xs) (h' : w'.ownsRow w.heap.size e sz v' m ys) : w'.ownsRow 0 e sz v' m ys := by
  refine ⟨h'.1, ?_⟩
  rcases h'.2 with h1 | ⟨g, cap, cur, h1, _, h2⟩
  · exact .inl h1
  · exact .inr ⟨g, cap, cur, h1, Nat.zero_le _, h2⟩
/-- Append's law, with where the new row lies. -/
theorem run_append_row {w : World} {t ty e : TypeId} {i : TypeInfo} {z : Value} {size bytes : Nat} (ht : P.underlying t = some (.slice e)) (hi : P.info? e = some i) (hz : i.zero = some z)
    (hsize : i.size = size) (hby : i.bytes = bytes) (hzs : z.cells.size = size) (hsz : 0 < size)
    {v : Value} {n : Nat} {xs : List Value} (hown : w.ownsRow 0 e size v n xs)
    {a : Addr} {m c : Nat} {news : List Value} (hl : news.length = m * size) (hnews : ∀ j u, news[j]? = some u → w.cell? (a.add j) = some u) (h1 : ∀ u ∈ news, u.oneCell' = true)
    (h63 : n + m ≤ maxLen) (hbytes : (n + m) * bytes ≤ 140737488355328) :
    ∃ v' w', (Builtin.append_ #[t, t] ty #[v, .slice (some a) m c]).run P w = .ok v' w' ∧ w'.ownsRow 0 e size v' (n + m) (xs ++ news) ∧ w.grownBy w' v.ownBlock ∧ (∀ b, v'.ownBlock = some b → v.ownBlock = some b ∨ w.heap.size ≤ b) := by
  obtain ⟨v', w', hr, ho, hg, _⟩ := run_append_own (P := P) w 0 t ty e i z size bytes ht hi hz hsize hby hzs hsz v n xs hown a m c news hl hnews h1 h63 hbytes (Nat.zero_le _)
  refine ⟨v', w', hr, ho, hg, fun b hb => ?_⟩
  -- in place, or new
  rcases hown.2 with ⟨rfl, rfl⟩ | ⟨g, cap, cur, rfl, hbg, hgg, hnc, hcm, hcs, htake⟩
  · obtain ⟨v2, w2, hr2, ho2, _, _⟩ := run_append_own (P := P) w w.heap.size t ty e i z size bytes ht hi hz hsize hby hzs hsz (.slice none 0 0) 0 xs ⟨hown.1, .inl ⟨rfl, rfl⟩⟩ a m c news hl hnews h1 h63 hbytes (Nat.le_refl _)
    rw [hr] at hr2
    injection hr2 with e1 e2
    subst e1 e2
    exact .inr (ho2.lt b hb).1
  · by_cases hroom : n + m ≤ cap
    · have hfit : n * i.size + news.length ≤ cur.size := by rw [hl, hcs, hsize, ← Nat.add_mul]; exact Nat.mul_le_mul_right _ hroom
      have hr3 := run_append_room (P := P) w t ty e i ht hi g n cap cur hgg a m c news (by rw [hsize]; exact hl) hnews h1 hroom hfit
      rw [hr] at hr3
      injection hr3 with e1 e2
      subst e1
      exact .inl (by simpa [Value.ownBlock] using hb)
    · have holds : ∀ j u, xs[j]? = some u → w.cell? ((⟨g, 0, none⟩ : Addr).add j) = some u := hown.cells (g := g) rfl
      have hr3 := run_append_grow (P := P) w t ty e i z ht hi hz ⟨g, 0, none⟩ n cap xs (by rw [hsize]; exact hown.1) holds a m c news (by rw [hsize]; exact hl) hnews (by omega) (by have := h63; simp only [maxLen] at this; omega) (growslice_fits (by omega) (by rw [hby]; exact hbytes))
      rw [hr] at hr3
      injection hr3 with e1 e2
      subst e1
      simp only [Value.ownBlock, Option.some.injEq] at hb
      exact .inr (by omega)
theorem Addr.add_off (b o j : Nat) : (⟨b, o, none⟩ : Addr).add j = ⟨b, o + j, none⟩ := by unfold Addr.add; split <;> simp_all
/-- .. of what any source holds. -/
theorem At.append {i t e sz by_ n m c o b : Nat} {ti : TypeInfo} {z : Value} {xs ys : List Value} (ht : P.underlying t = some (.slice e)) (hti : P.info? e = some ti) (hz : ti.zero = some z) (hsize : ti.size = sz) (hby : ti.bytes = by_) (hzs : z.cells.size = sz) (hsz : Nat.blt 0 sz = true)
    (hx : ev E x = some v) (hy : ev E y = some (.slice (some ⟨b, o, none⟩) m c)) (hi : H[i]? = some (rowR v e sz n xs)) (hl : ys.length = m * sz)
    (hsrc : ∀ w, Rep Γ.w0 Γ.S H w → ∀ j u, ys[j]? = some u → w.cell? ⟨b, o + j, none⟩ = some u) (h1 : ∀ u ∈ ys, u.oneCell' = true) (h63 : (n + m) * by_ ≤ 140737488355328) (h64 : n + m ≤ 140737488355328) (hn : Nat.blt d Γ.n = true)
    (k : ∀ v', At Γ ((d, v') :: E) (H.set i (rowR v' e sz (n + m) (xs ++ ys))) (wpList P ops Q rest)) :
    At Γ E H (wpList P ops Q ({ dst := some d, op := .call { callee := .builtin .append, args := #[x, y], argTypes := #[t, t] }, type := ty, pos, after, guard := none } :: rest)) :=
  At.run rfl rfl hn fun a w ha hw => by
    have h : w.ownsRow 0 e sz v n xs := hw.row hi
    obtain ⟨v', w', hr, ho, hg, hf⟩ := run_append_row (P := P) (ty := ty) ht hti hz hsize hby hzs (by simpa [Nat.blt_eq] using hsz) h (a := ⟨b, o, none⟩) (m := m) (c := c) hl
      (fun j u hj => by rw [Addr.add_off]; exact hsrc w hw j u hj) h1 (by simp only [maxLen]; omega) h63
    exact ⟨v', w', _, by simp [execOp, resolve, invoke, builtin, ha.eval hx, ha.eval hy, Sem.run_bind, hr], hw.change hi (grown_mod hg) ho hf, k v'⟩
/-! ### what is not needed any more is let go -/
theorem Rep.drop {w0 S H H' w} (h : Rep w0 S H w) (hs : H'.Sublist H) : Rep w0 S H' w :=
  ⟨h.sep.sublist hs, fun r hr => h.all r (hs.subset hr), fun r hr => h.mine r (hs.subset hr), h.mod⟩
theorem At.drop (i : Nat) (k : At Γ E (H.eraseIdx i) φ) : At Γ E H φ := fun a w ha hw => k a w ha (hw.drop (List.eraseIdx_sublist ..))
theorem Holds.bytes {w : World} {b T : Nat} {l : List UInt8} {sp : List Value} (h : Holds w b T (l.map bv ++ sp)) : Bytes w (some ⟨b, 0, none⟩) l := fun k c hk => ⟨b, 0, rfl, by
  have hlt : k < l.length := (List.getElem?_eq_some_iff.1 hk).1
  rw [Nat.zero_add, h.cell, List.getElem?_append_left (by simpa using hlt), List.getElem?_map, hk]; rfl⟩
theorem Holds.bytes' {w : World} {b T : Nat} {l : List UInt8} (h : Holds w b T (l.map bv)) : Bytes w (some ⟨b, 0, none⟩) l := Holds.bytes (sp := []) (by simpa using h)
/-! ### calls that take and give rows -/
theorem Rep.one {r : Res} {w : World} (h : r.holds w) : Rep w (feet [r]) [r] w := Rep.start (by simp) (by simpa using h)
def RowUpd (P : Program) (f : FuncId) (vs : List Value) (v : Value) (e sz n : Nat) (xs : List Value) (n' : Nat) (xs' : List Value) (w : World) : Prop :=
  Calls P f vs.toArray w fun r w' => ∃ v', r = .returned v' ∧ Rep w (feet [rowR v e sz n xs]) [rowR v' e sz n' xs'] w'
def NewRow (P : Program) (f : FuncId) (vs : List Value) (e sz n : Nat) (xs : List Value) (w : World) : Prop :=
  Calls P f vs.toArray w fun r w' => ∃ v', r = .returned v' ∧ Rep w (feet []) [rowR v' e sz n xs] w'
theorem At.callR (i : Nat) {e sz n n' : Nat} {xs xs' : List Value} {f : FuncId} {l : List Operand} {vs : List Value} {at_ : Array TypeId} (hi : H[i]? = some (rowR v e sz n xs)) (h : ∀ w, Rep Γ.w0 Γ.S H w → w.ownsRow 0 e sz v n xs → RowUpd P f vs v e sz n xs n' xs' w)
    (hc : ∀ args w, (callFunc f args).run P w = .ok (.enter f args) w) (hv : evs E l = some vs) (hn : Nat.blt d Γ.n = true)
    (k : ∀ v', At Γ ((d, v') :: E) (H.set i (rowR v' e sz n' xs')) (wpList P ops Q rest)) :
    At Γ E H (wpList P ops Q ({ dst := some d, op := .call { callee := .value (.func f), args := l.toArray, argTypes := at_ }, type := ty, pos, after, guard := none } :: rest)) :=
  At.call hc hv hn fun w hw => (h w hw (hw.row hi)).mono fun e w' ⟨v', he, hr⟩ => ⟨v', _, he, Rep.frame1 (X := []) hi hw hr, k v'⟩
theorem At.callN {e sz n : Nat} {xs : List Value} {f : FuncId} {l : List Operand} {vs : List Value} {at_ : Array TypeId} (h : ∀ w, Rep Γ.w0 Γ.S H w → NewRow P f vs e sz n xs w)
    (hc : ∀ args w, (callFunc f args).run P w = .ok (.enter f args) w) (hv : evs E l = some vs) (hn : Nat.blt d Γ.n = true)
    (k : ∀ v', At Γ ((d, v') :: E) (rowR v' e sz n xs :: H) (wpList P ops Q rest)) :
    At Γ E H (wpList P ops Q ({ dst := some d, op := .call { callee := .value (.func f), args := l.toArray, argTypes := at_ }, type := ty, pos, after, guard := none } :: rest)) :=
  At.call hc hv hn fun w hw => (h w hw).mono fun e w' ⟨v', he, hr⟩ => ⟨v', _, he, by
    have := Rep.frame (H0 := []) (F := H) (by simpa using hw) hr
    simpa using this, k v'⟩
/-! ### what is made -/
theorem At.buildSl {t e n : Nat} {parts : Array (Nat × Operand)} {vs : Array (Nat × Value)} {cs : List Value} (hp : ∀ a : Act, Agrees Γ.n Γ.D E a → (parts.map fun p => (p.1, a.eval p.2)) = vs)
    (hb : ∀ w, (Instr.buildSlice t n vs).run P w = .ok (.slice (some ⟨w.heap.size, 0, none⟩) n n) (w.alloc (.cells cs.toArray e))) (hn : Nat.blt d Γ.n = true)
    (k : ∀ b, At Γ ((d, .slice (some ⟨b, 0, none⟩) n n) :: E) (blk b e cs :: H) (wpList P ops Q rest)) :
    At Γ E H (wpList P ops Q ({ dst := some d, op := .buildSlice t n parts, type := ty, pos, after, guard := none } :: rest)) :=
  At.run rfl rfl hn fun a w ha hw => by
    refine ⟨_, _, _, ?_, hw.alloc e cs, k _⟩
    have := hp a ha
    simp only [execOp]
    rw [show (parts.map fun (x : Nat × Operand) => (x.1, a.eval x.2)) = vs from this]
    simp [Sem.run_bind, hb]
theorem At.strBytes {s t e : Nat} {st : ByteArray} {us : TypeDesc} (hs : P.underlying s = some .string) (ht : P.underlying t = some (.slice e)) (he : P.underlying e = some (.int .u8)) (hx : ev E x = some (.string st)) (hn : Nat.blt d Γ.n = true)
    (k : ∀ b c sp, At Γ ((d, .slice (some ⟨b, 0, none⟩) st.size c) :: E) (blk b e (st.data.toList.map bv ++ sp) :: H) (wpList P ops Q rest)) :
    At Γ E H (wpList P ops Q ({ dst := some d, op := .convert s t x, type := ty, pos, after, guard := none } :: rest)) :=
  At.run rfl rfl hn fun a w ha hw => by
    have hr := Lib.run_convert_string_bytes (P := P) w s t e st hs ht he
    have h0 : (execOp a.eval { dst := some d, op := .convert s t x, type := ty, pos, after, guard := none }).run P w = .ok (.value (.slice (some ⟨w.heap.size, 0, none⟩) st.size (grownCap w st.size 0 e))) (Lib.bytesWorld w e st) := by
      simp [execOp, ha.eval hx, Sem.run_bind, hr]
    have hm : Mod (fun _ => False) w (Lib.bytesWorld w e st) := ⟨by rw [Lib.bytesWorld_size]; omega, fun b hb _ => Lib.bytesWorld_at_old w e st b hb, by unfold Lib.bytesWorld World.freeze; split <;> rfl, by unfold Lib.bytesWorld World.freeze; split <;> rfl, by unfold Lib.bytesWorld World.freeze; split <;> rfl⟩
    have hh : Holds (Lib.bytesWorld w e st) w.heap.size e (st.data.toList.map bv ++ List.replicate (grownCap w st.size 0 e - st.size) (Value.int IntKind.u8 0)) := by
      have ec : Lib.bytesCells w e st = (st.data.toList.map bv ++ List.replicate (grownCap w st.size 0 e - st.size) (Value.int IntKind.u8 0)).toArray := by
        apply Array.ext'
        simp [Lib.bytesCells]
      have := Lib.bytesWorld_at_new w e st
      rw [ec] at this
      exact ⟨_, this, .inr (by simp)⟩
    exact ⟨_, _, _, h0, hw.new (r' := blk w.heap.size e _) hm hh (fun b hb => by simp only [blk] at hb; omega), k _ _ _⟩
end
end Go.Wk
