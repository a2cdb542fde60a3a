/- The calculus: copies. -/
import Derived.Test.YtoiebgnmknbkjaaDoorPe
set_option linter.unusedVariables false
set_option linter.unusedSimpArgs false
namespace Go.Wk
open Go
section
variable {P : Program} {Γ : Ctx} {E : Env} {H : List Res} {ops : Array Oper} {Q : Exit → Act → World → Prop} {rest : List Oper}
  {d : Nat} {dst : Option Tmp} {g : Option (Nat × Bool)} {ty : TypeId} {pos : String} {after : Array Edge} {x y z : Operand} {v u : Value}
theorem copyStr_step {i dT sT e m c o b U : Nat} {s : ByteArray} {cs : List Value} (ht : P.underlying dT = some (.slice e)) (hz : ∀ w, (sizeOf e).run P w = .ok 1 w)
    (hx : ev E x = some (.slice (some ⟨b, o, none⟩) m c)) (hy : ev E y = some (.string s)) (hi : H[i]? = some (blk b U cs)) (hm : s.size ≤ m) (ho : o + s.size ≤ cs.length) (a : Act) (w : World) (ha : Agrees Γ.n Γ.D E a) (hw : Rep Γ.w0 Γ.S H w) :
    ∃ w', (execOp a.eval { dst := some d, op := .call { callee := .builtin .copy, args := #[x, y], argTypes := #[dT, sT] }, type := ty, pos, after, guard := none }).run P w = .ok (.value (.int .i64 s.size)) w' ∧
      Rep Γ.w0 Γ.S (H.set i (blk b U (putAt cs o (s.data.toList.map bv)))) w' := by
  have hl : (s.data.toList.map bv).length = s.size := by rw [List.length_map]; exact Array.length_toList
  obtain ⟨w', hr, hw'⟩ := storeCells_list (P := P) (s.data.toList.map bv) o 0 cs H w hw hi (by rw [hl]; omega) (by intro v hv; obtain ⟨q, _, rfl⟩ := List.mem_map.1 hv; rfl)
  refine ⟨w', ?_, hw'⟩
  have hmin : Nat.min s.size m = s.size := Nat.min_eq_left hm
  have h0 : (Builtin.copy_ #[dT, sT] ty #[.slice (some ⟨b, o, none⟩) m c, .string s]).run P w = .ok (goInt s.size) w' := by
    simp [Builtin.copy_, run_underlying ht, Builtin.lenOf, Builtin.firstCells, hz, hmin]
    rw [List.take_of_length_le (by rw [List.length_map]; exact Nat.le_of_eq Array.length_toList)]
    rw [show (s.data.toList.map fun b : UInt8 => Value.int IntKind.u8 (b.toNat : Int)) = s.data.toList.map bv from rfl, hr]
    rfl
  simp [execOp, resolve, invoke, builtin, ha.eval hx, ha.eval hy, Sem.run_bind, h0, goInt]
theorem At.copyStr {i dT sT e m c o b U : Nat} {s : ByteArray} {cs : List Value} (ht : P.underlying dT = some (.slice e)) (hz : ∀ w, (sizeOf e).run P w = .ok 1 w)
    (hx : ev E x = some (.slice (some ⟨b, o, none⟩) m c)) (hy : ev E y = some (.string s)) (hi : H[i]? = some (blk b U cs)) (hm : s.size ≤ m) (ho : o + s.size ≤ cs.length) (hn : Nat.blt d Γ.n = true)
    (k : At Γ ((d, .int .i64 s.size) :: E) (H.set i (blk b U (putAt cs o (s.data.toList.map bv)))) (wpList P ops Q rest)) :
    At Γ E H (wpList P ops Q ({ dst := some d, op := .call { callee := .builtin .copy, args := #[x, y], argTypes := #[dT, sT] }, type := ty, pos, after, guard := none } :: rest)) :=
  At.run rfl rfl hn fun a w ha hw => by
    obtain ⟨w', hr, hw'⟩ := copyStr_step (ty := ty) (pos := pos) (after := after) (d := d) ht hz hx hy hi hm ho a w ha hw
    exact ⟨_, w', _, hr, hw', k⟩
/-- From a slice, whose first cells are known. -/
theorem At.copySl {i dT sT e m m' c c' o b n U : Nat} {A : Addr} {cs ys : List Value} (ht : P.underlying dT = some (.slice e)) (hz : ∀ w, (sizeOf e).run P w = .ok 1 w)
    (hx : ev E x = some (.slice (some ⟨b, o, none⟩) m c)) (hy : ev E y = some (.slice (some A) m' c')) (hi : H[i]? = some (blk b U cs)) (hm : Nat.min m' m = n) (hl : ys.length = n) (ho : o + n ≤ cs.length)
    (hsrc : ∀ w, Rep Γ.w0 Γ.S H w → ∀ j u, ys[j]? = some u → w.cell? (A.add j) = some u) (h1 : ∀ u ∈ ys, u.oneCell' = true) (hn : Nat.blt d Γ.n = true)
    (k : At Γ ((d, .int .i64 n) :: E) (H.set i (blk b U (putAt cs o ys))) (wpList P ops Q rest)) :
    At Γ E H (wpList P ops Q ({ dst := some d, op := .call { callee := .builtin .copy, args := #[x, y], argTypes := #[dT, sT] }, type := ty, pos, after, guard := none } :: rest)) :=
  At.run rfl rfl hn fun a w ha hw => by
    obtain ⟨w', hr, hw'⟩ := storeCells_list (P := P) ys o 0 cs H w hw hi (by omega) h1
    have hld := run_loadCells_list (P := P) w A ys (hsrc w hw)
    refine ⟨.int .i64 n, w', _, ?_, hw', k⟩
    have h0 : (Builtin.copy_ #[dT, sT] ty #[.slice (some ⟨b, o, none⟩) m c, .slice (some A) m' c']).run P w = .ok (goInt n) w' := by
      subst hl
      simp [Builtin.copy_, run_underlying ht, Builtin.lenOf, Builtin.firstCells, hz, hm, hld, hr]
    simp [execOp, resolve, invoke, builtin, ha.eval hx, ha.eval hy, Sem.run_bind, h0, goInt]
end
/-- A call that takes a resource and keeps it. -/
def Use (P : Program) (f : FuncId) (vs : List Value) (r : Res) (v : Value) (w : World) : Prop := Calls P f vs.toArray w fun e w' => e = .returned v ∧ Rep w (feet [r]) [] w'
theorem At.callU {P : Program} {Γ : Ctx} {E : Env} {H : List Res} {ops : Array Oper} {Q : Exit → Act → World → Prop} {rest : List Oper} {d : Nat} {ty : TypeId} {pos : String} {after : Array Edge} {v : Value}
    (i : Nat) {r : Res} {f : FuncId} {l : List Operand} {vs : List Value} {at_ : Array TypeId} (hi : H[i]? = some r) (h : ∀ w, Rep Γ.w0 Γ.S H w → r.holds w → Use P f vs r v w)
    (hc : ∀ args w, (callFunc f args).run P w = .ok (.enter f args) w) (hv : evs E l = some vs) (hn : Nat.blt d Γ.n = true)
    (k : At Γ ((d, v) :: E) (H.eraseIdx i) (wpList P ops Q rest)) :
    At Γ E H (wpList P ops Q ({ dst := some d, op := .call { callee := .value (.func f), args := l.toArray, argTypes := at_ }, type := ty, pos, after, guard := none } :: rest)) :=
  At.call hc hv hn fun w hw => (h w hw (hw.all _ (List.mem_of_getElem? hi))).mono fun e w' ⟨he, hr⟩ => ⟨v, _, he, Rep.frame (H0 := [r]) (H0' := []) (hw.perm (erase_perm H i r hi)) hr, k⟩
/-! ### the pen: a line filled from the front -/
def penC (a : List UInt8) : List Value := (a ++ zs (64 - a.length)).map bv ++ [.int .i64 (a.length : Nat)]
theorem penC_len {a : List UInt8} (h : a.length ≤ 64) : (penC a).length = 65 := by simp [penC, zs]; omega
theorem penC_at {a : List UInt8} (h : a.length ≤ 64) : (penC a)[64]? = some (.int .i64 (a.length : Nat)) := by
  have e : ((a ++ zs (64 - a.length)).map bv).length = 64 := by simp [zs]; omega
  unfold penC
  rw [List.getElem?_append_right (by omega), e]; rfl
theorem penC_at' {a : List UInt8} {v : Value} (h : a.length < 64) : ((penC a).set a.length v)[64]? = some (.int .i64 (a.length : Nat)) := by
  rw [List.getElem?_set_ne (by omega)]; exact penC_at (by omega)
theorem penC_line {a : List UInt8} (h : a.length ≤ 64) : ((penC a).drop 0).take 64 = (a ++ zs (64 - a.length)).map bv := by
  have e : ((a ++ zs (64 - a.length)).map bv).length = 64 := by simp [zs]; omega
  unfold penC
  rw [List.drop_zero, List.take_append_of_le_length (by omega), List.take_of_length_le (by omega)]
theorem penC_put {a s : List UInt8} (h : a.length + s.length ≤ 64) : (putAt (penC a) a.length (s.map bv)).set 64 (.int .i64 ((a.length + s.length : Nat) : Int)) = penC (a ++ s) := by
  have e1 : (penC a).take a.length = a.map bv := by unfold penC; rw [List.map_append, List.append_assoc, List.take_append_of_le_length (by simp), List.take_of_length_le (by simp)]
  have e2 : (penC a).drop (a.length + s.length) = (zs (64 - a.length - s.length)).map bv ++ [.int .i64 (a.length : Nat)] := by
    unfold penC
    rw [List.map_append, List.append_assoc, ← List.drop_drop, List.drop_append_of_le_length (by simp), List.drop_of_length_le (l := a.map bv) (by simp), List.nil_append,
      List.drop_append_of_le_length (by simp [zs]; omega)]
    congr 1
    simp [zs]
  unfold putAt
  rw [e1, List.length_map, e2]
  unfold penC
  rw [List.length_append, ← Nat.sub_sub, List.map_append, List.map_append]
  rw [show a.map bv ++ s.map bv ++ ((zs (64 - a.length - s.length)).map bv ++ [Value.int .i64 (a.length : Nat)]) = (a.map bv ++ s.map bv ++ (zs (64 - a.length - s.length)).map bv) ++ [Value.int .i64 (a.length : Nat)] from by simp]
  have e3 : (a.map bv ++ s.map bv ++ (zs (64 - a.length - s.length)).map bv).length = 64 := by simp [zs]; omega
  rw [List.set_append_right _ _ (by omega), e3]
  rfl
theorem penC_step {a : List UInt8} {c : UInt8} (h : a.length < 64) : ((penC a).set a.length (bv c)).set 64 (.int .i64 ((a.length + 1 : Nat) : Int)) = penC (a ++ [c]) := by
  have := penC_put (a := a) (s := [c]) (by simp; omega)
  rw [← this]
  congr 1
  unfold putAt
  rw [List.set_eq_take_append_cons_drop, if_pos (by rw [penC_len (by omega)]; omega)]
  simp
theorem penC_nil : penC [] = List.replicate 64 (Value.int .u8 0) ++ [Value.int .i64 0] := by simp [penC, zs]
end Go.Wk
