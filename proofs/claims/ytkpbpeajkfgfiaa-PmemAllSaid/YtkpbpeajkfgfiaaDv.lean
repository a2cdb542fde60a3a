/- The document's device: lines with their stores and flushes; what owns them; the rules of its parts. -/
import Derived.Test.YtkpbpeajkfgfiaaDr
set_option linter.unusedVariables false
set_option linter.unusedSimpArgs false
namespace Go.Wk
open Go
structure Rl where
  first : List (BitVec 64)
  puts : List (Nat × BitVec 64 × Nat)
  fl : List Nat
structure Rs where
  ls : List Rl
  fenced : Nat
  now : Nat
  left : Int
abbrev Lq := Rl × Value × Value
structure Rg where
  vl : Value
  Q : List Lq
abbrev tRD : TypeId := 134
abbrev tLn : TypeId := 155
abbrev tPu : TypeId := 158
abbrev tI : TypeId := 3
def pC (l : List (Nat × BitVec 64 × Nat)) : List Value := l.flatMap fun c => [.int .i64 (c.1 : Int), b64 c.2.1, .int .i64 (c.2.2 : Int)]
def fC (l : List Nat) : List Value := l.map fun (t : Nat) => Value.int .i64 (t : Int)
def lC (Q : List Lq) : List Value := Q.flatMap fun x => x.1.first.map b64 ++ [x.2.1, x.2.2]
def First8 (Q : List Lq) : Prop := ∀ x ∈ Q, x.1.first.length = 8
theorem First8.tail {x : Lq} {Q : List Lq} (h : First8 (x :: Q)) : First8 Q := fun y hy => h y (List.mem_cons_of_mem _ hy)
theorem lC_cons (x : Lq) (Q : List Lq) : lC (x :: Q) = x.1.first.map b64 ++ [x.2.1, x.2.2] ++ lC Q := rfl
theorem lC_head {x : Lq} {Q : List Lq} (h : First8 (x :: Q)) : (x.1.first.map b64 ++ [x.2.1, x.2.2]).length = 10 := by
  rw [List.length_append, List.length_map, h x (List.mem_cons_self ..)]; rfl
theorem lC_length : ∀ {Q : List Lq}, First8 Q → (lC Q).length = Q.length * 10
  | [], _ => rfl
  | x :: Q, h => by rw [lC_cons, List.length_append, lC_head h, lC_length h.tail, List.length_cons]; omega
theorem lC_at : ∀ {Q : List Lq} {k i : Nat} {x : Lq} {u : Value}, First8 Q → Q[k]? = some x → (x.1.first.map b64 ++ [x.2.1, x.2.2])[i]? = some u → (lC Q)[k * 10 + i]? = some u
  | [], k, i, x, u, _, h, _ => by simp at h
  | y :: Q, 0, i, x, u, h8, h, hu => by
    obtain rfl : y = x := by simpa using h
    have hi : i < 10 := by have := (List.getElem?_eq_some_iff.1 hu).1; rwa [lC_head h8] at this
    rw [lC_cons, Nat.zero_mul, Nat.zero_add, List.getElem?_append_left (by rw [lC_head h8]; exact hi)]; exact hu
  | y :: Q, k + 1, i, x, u, h8, h, hu => by
    rw [lC_cons, List.getElem?_append_right (by rw [lC_head h8]; omega), lC_head h8, show (k + 1) * 10 + i - 10 = k * 10 + i by omega]
    exact lC_at h8.tail (by simpa using h) hu
theorem lC_first {Q : List Lq} {k i : Nat} {x : Lq} {v : BitVec 64} (h8 : First8 Q) (hk : Q[k]? = some x) (hi : x.1.first[i]? = some v) : (lC Q)[k * 10 + i]? = some (b64 v) := by
  have hl := (List.getElem?_eq_some_iff.1 hi).1
  exact lC_at h8 hk (by rw [List.getElem?_append_left (by rw [List.length_map]; exact hl), List.getElem?_map, hi]; rfl)
theorem lC_puts {Q : List Lq} {k : Nat} {x : Lq} (h8 : First8 Q) (hk : Q[k]? = some x) : (lC Q)[k * 10 + 8]? = some x.2.1 := by
  have h := h8 x (List.mem_of_getElem? hk)
  exact lC_at h8 hk (by rw [List.getElem?_append_right (by rw [List.length_map, h]; exact Nat.le_refl _), List.length_map, h]; rfl)
theorem lC_fl {Q : List Lq} {k : Nat} {x : Lq} (h8 : First8 Q) (hk : Q[k]? = some x) : (lC Q)[k * 10 + 9]? = some x.2.2 := by
  have h := h8 x (List.mem_of_getElem? hk)
  exact lC_at h8 hk (by rw [List.getElem?_append_right (by rw [List.length_map, h]; decide), List.length_map, h]; rfl)
theorem lC_set : ∀ {Q : List Lq} {k i : Nat} {x x' : Lq} {u : Value}, First8 Q → Q[k]? = some x → i < 10 → (x.1.first.map b64 ++ [x.2.1, x.2.2]).set i u = x'.1.first.map b64 ++ [x'.2.1, x'.2.2] → (lC Q).set (k * 10 + i) u = lC (Q.set k x')
  | [], k, i, x, x', u, _, h, _, _ => by simp at h
  | y :: Q, 0, i, x, x', u, h8, h, hi, he => by
    obtain rfl : y = x := by simpa using h
    rw [lC_cons, Nat.zero_mul, Nat.zero_add, List.set_append_left _ _ (by rw [lC_head h8]; exact hi), he]; rfl
  | y :: Q, k + 1, i, x, x', u, h8, h, hi, he => by
    rw [lC_cons, List.set_append_right _ _ (by rw [lC_head h8]; omega), lC_head h8, show (k + 1) * 10 + i - 10 = k * 10 + i by omega, lC_set h8.tail (by simpa using h) hi he]; rfl
theorem lC_setPuts {Q : List Lq} {k : Nat} {x : Lq} {l' : Rl} {v : Value} (h8 : First8 Q) (hk : Q[k]? = some x) (hl : l'.first = x.1.first) : (lC Q).set (k * 10 + 8) v = lC (Q.set k (l', v, x.2.2)) := by
  have h := h8 x (List.mem_of_getElem? hk)
  refine lC_set h8 hk (by omega) ?_
  rw [List.set_append_right _ _ (by rw [List.length_map, h]; exact Nat.le_refl _), List.length_map, h, hl]; rfl
theorem lC_setFl {Q : List Lq} {k : Nat} {x : Lq} {l' : Rl} {v : Value} (h8 : First8 Q) (hk : Q[k]? = some x) (hl : l'.first = x.1.first) : (lC Q).set (k * 10 + 9) v = lC (Q.set k (l', x.2.1, v)) := by
  have h := h8 x (List.mem_of_getElem? hk)
  refine lC_set h8 hk (by omega) ?_
  rw [List.set_append_right _ _ (by rw [List.length_map, h]; decide), List.length_map, h, hl]; rfl
theorem lC_setFirst {Q : List Lq} {k i : Nat} {x : Lq} {v : BitVec 64} (h8 : First8 Q) (hk : Q[k]? = some x) (hi : i < 8) : (lC Q).set (k * 10 + i) (b64 v) = lC (Q.set k ({ x.1 with first := x.1.first.set i v }, x.2.1, x.2.2)) := by
  have h := h8 x (List.mem_of_getElem? hk)
  refine lC_set h8 hk (by omega) ?_
  rw [List.set_append_left _ _ (by rw [List.length_map, h]; exact hi), ← List.map_set]
theorem first8_set {Q : List Lq} {k : Nat} {x' : Lq} (h8 : First8 Q) (h : x'.1.first.length = 8) : First8 (Q.set k x') := fun y hy => by
  rcases List.mem_or_eq_of_mem_set hy with h1 | h1
  · exact h8 y h1
  · rw [h1]; exact h
def purow (v : Value) (l : List (Nat × BitVec 64 × Nat)) : Res := rowR v tPu 3 l.length (pC l)
def flrow (v : Value) (l : List Nat) : Res := rowR v tI 1 l.length (fC l)
def lI (Q : List Lq) (k : Nat) : Option Res := match Q[k]? with | some x => some (star [purow x.2.1 x.1.puts, flrow x.2.2 x.1.fl]) | none => none
theorem lI_some {Q : List Lq} {k : Nat} {x : Lq} (h : Q[k]? = some x) : lI Q k = some (star [purow x.2.1 x.1.puts, flrow x.2.2 x.1.fl]) := by unfold lI; rw [h]
theorem lI_set {Q : List Lq} {k : Nat} {x' : Lq} (h : k < Q.length) : upd (upd (lI Q) k none) k (some (star [purow x'.2.1 x'.1.puts, flrow x'.2.2 x'.1.fl])) = lI (Q.set k x') := by
  funext j
  by_cases hj : j = k
  · subst hj; rw [upd_at, lI_some (List.getElem?_set_self h)]
  · rw [upd_ne _ _ hj, upd_ne _ _ hj]; unfold lI; rw [List.getElem?_set_ne (Ne.symm hj)]
theorem lI_first {Q : List Lq} {k : Nat} {x x' : Lq} (hk : Q[k]? = some x) (h1 : x'.1.puts = x.1.puts) (h2 : x'.1.fl = x.1.fl) (h3 : x'.2 = x.2) : lI (Q.set k x') = lI Q := by
  funext j
  by_cases hj : j = k
  · subst hj; rw [lI_some (List.getElem?_set_self (List.getElem?_eq_some_iff.1 hk).1), lI_some hk, h1, h2, h3]
  · unfold lI; rw [List.getElem?_set_ne (Ne.symm hj)]
theorem pC_length (a : List (Nat × BitVec 64 × Nat)) : (pC a).length = a.length * 3 := by induction a with
  | nil => rfl
  | cons c a ih => simp only [pC, List.flatMap_cons, List.length_append, List.length_cons] at *; rw [ih]; simp; omega
theorem pC_at : ∀ {L : List (Nat × BitVec 64 × Nat)} {j i : Nat} {c : Nat × BitVec 64 × Nat} {u : Value}, L[j]? = some c → ([.int .i64 (c.1 : Int), b64 c.2.1, .int .i64 (c.2.2 : Int)] : List Value)[i]? = some u → (pC L)[j * 3 + i]? = some u
  | d :: L, 0, i, c, u, h, hu => by
    have : d = c := by simpa using h
    subst this
    have hi : i < 3 := (List.getElem?_eq_some_iff.1 hu).1
    show ([.int .i64 (d.1 : Int), b64 d.2.1, .int .i64 (d.2.2 : Int)] ++ pC L)[0 * 3 + i]? = some u
    rw [Nat.zero_mul, Nat.zero_add, List.getElem?_append_left hi]; exact hu
  | d :: L, j + 1, i, c, u, h, hu => by
    have h' : L[j]? = some c := by simpa using h
    have := pC_at h' hu
    show ([.int .i64 (d.1 : Int), b64 d.2.1, .int .i64 (d.2.2 : Int)] ++ pC L)[(j + 1) * 3 + i]? = some u
    rw [List.getElem?_append_right (by simp; omega)]
    simpa [show (j + 1) * 3 + i - 3 = j * 3 + i by omega] using this
theorem pC_snoc (L : List (Nat × BitVec 64 × Nat)) (c : Nat × BitVec 64 × Nat) : pC (L ++ [c]) = pC L ++ [.int .i64 (c.1 : Int), b64 c.2.1, .int .i64 (c.2.2 : Int)] := by simp [pC]
structure Rgood (ρ : Rs) : Prop where
  pos : 0 < ρ.ls.length
  len : ρ.ls.length ≤ 8192
  now : ρ.now ≤ 1099511627776
  fen : ρ.fenced ≤ ρ.now
  left : -1 ≤ ρ.left ∧ ρ.left ≤ 9223372036854775807
  line : ∀ l ∈ ρ.ls, l.first.length = 8 ∧ l.puts.length ≤ ρ.now ∧ l.fl.length ≤ ρ.now ∧ (∀ c ∈ l.puts, c.1 < 8 ∧ c.2.2 ≤ ρ.now) ∧ (∀ t ∈ l.fl, t ≤ ρ.now)
def rdevL (p : Nat) (γ : Rg) (ρ : Rs) : List Res :=
  [blk p tRD [γ.vl, .int .i64 (ρ.fenced : Int), .int .i64 (ρ.now : Int), .int .i64 ρ.left], rowR γ.vl tLn 10 γ.Q.length (lC γ.Q), fam (lI γ.Q), factR (γ.Q.map Prod.fst = ρ.ls ∧ Rgood ρ)]
def RDev (p : Nat) (γ : Rg) (ρ : Rs) : Res := star (rdevL p γ ρ)
section
variable {P : Program} {Γ : Ctx} {E : Env} {H L F : List Res} {ops : Array Oper} {R : Exit → Act → World → Prop} {rest : List Oper} {w0 w w' : World} {S : Nat → Prop} {φ : Act → World → Prop} {ψ : Act → Prop}
  {d : Nat} {dst : Option Tmp} {g : Option (Nat × Bool)} {ty : TypeId} {pos : String} {after : Array Edge} {x y z : Operand} {v u : Value} {p : Nat} {γ : Rg} {ρ ρ' : Rs} {Q : List Lq} {q : Lq}
theorem RDev.facts (h : (RDev p γ ρ).holds w) : γ.Q.map Prod.fst = ρ.ls ∧ Rgood ρ := h.2 (factR (γ.Q.map Prod.fst = ρ.ls ∧ Rgood ρ)) (by simp [rdevL])
theorem first8_of (hQ : γ.Q.map Prod.fst = ρ.ls) (hg : Rgood ρ) : First8 γ.Q := fun x hx => (hg.line x.1 (by rw [← hQ]; exact List.mem_map.2 ⟨x, hx, rfl⟩)).1
/-! ### rows that are owned somewhere in H -/
theorem Val.lenO {t el e sz n : Nat} {xs : List Value} (h : ∀ w, Rep Γ.w0 Γ.S H w → w.ownsRow 0 e sz v n xs) (hsz : 0 < sz) (hu : P.underlying t = some (.slice el)) (hx : ev E x = some v) :
    Val P Γ E H ⟨dst, .call { callee := .builtin .len, args := #[x], argTypes := #[t] }, ty, pos, after, g⟩ (.int .i64 n) := fun a w ha hw => Val.lenRd (row_rd (h w hw) hsz) hu hx a w ha hw
theorem Val.indexO {t el e sz n : Nat} {xs : List Value} {k : IntKind} {j : Int} (h : ∀ w, Rep Γ.w0 Γ.S H w → w.ownsRow 0 e sz v n xs) (m : Nat) (hm : j.toNat * sz = m) (hu : P.underlying t = some (.slice el)) (hs : ∀ w, (sizeOf el).run P w = .ok sz w) (hx : ev E x = some v) (hy : ev E y = some (.int k j))
    (h0 : 0 ≤ j) (h1 : j < n) : Val P Γ E H ⟨dst, .indexAddr t x y, ty, pos, after, g⟩ (.pointer (some ⟨rowB v, m, none⟩)) := fun a w ha hw => by
  rcases (h w hw).2 with ⟨rfl, h2⟩ | ⟨b, cap, cur, rfl, _⟩
  · omega
  · have := Val.indexSl (P := P) (Γ := Γ) (E := E) (H := H) (dst := dst) (g := g) (ty := ty) (pos := pos) (after := after) (y := y) (o := 0) m (by omega) hu hs hx hy h0 h1 a w ha hw
    simpa [rowB, Value.ownBlock] using this
theorem Val.loadO {t e sz n m : Nat} {xs : List Value} (h : ∀ w, Rep Γ.w0 Γ.S H w → w.ownsRow 0 e sz v n xs) (hA : ∀ w, (isAgg t).run P w = .ok false w) (hx : ev E x = some (.pointer (some ⟨rowB v, m, none⟩))) (hv : xs[m]? = some u) :
    Val P Γ E H ⟨dst, .load t x, ty, pos, after, g⟩ u := fun a w ha hw => by
  have := run_loadAt_cell (P := P) hA (row_cell (h w hw) hv)
  simp [execOp, ha.eval hx, Sem.run_bind, this]
theorem fam_puts {i k : Nat} (hi : H[i]? = some (fam (lI Q))) (hk : Q[k]? = some q) (w : World) (hw : Rep w0 S H w) : w.ownsRow 0 tPu 3 q.2.1 q.1.puts.length (pC q.1.puts) := by
  have h : (fam (lI Q)).holds w := hw.all _ (List.mem_of_getElem? hi)
  exact (h.1 k _ (lI_some hk)).2 (purow q.2.1 q.1.puts) (by simp)
theorem fam_fls {i k : Nat} (hi : H[i]? = some (fam (lI Q))) (hk : Q[k]? = some q) (w : World) (hw : Rep w0 S H w) : w.ownsRow 0 tI 1 q.2.2 q.1.fl.length (fC q.1.fl) := by
  have h : (fam (lI Q)).holds w := hw.all _ (List.mem_of_getElem? hi)
  exact (h.1 k _ (lI_some hk)).2 (flrow q.2.2 q.1.fl) (by simp)
theorem At.focusL (i : Nat) {k : Nat} (hi : H[i]? = some (fam (lI Q))) (hk : Q[k]? = some q) (c : At Γ E (purow q.2.1 q.1.puts :: flrow q.2.2 q.1.fl :: fam (upd (lI Q) k none) :: H.eraseIdx i) φ) : At Γ E H φ := fun a w ha hw =>
  c a w ha ((hw.perm (erase_perm H i _ hi)).focus (lI_some hk)).openS
theorem At.unfocusL {k : Nat} {q' : Lq} (hk : k < Q.length) (c : At Γ E (fam (lI (Q.set k q')) :: H) φ) : At Γ E (purow q'.2.1 q'.1.puts :: flrow q'.2.2 q'.1.fl :: fam (upd (lI Q) k none) :: H) φ := fun a w ha hw => by
  have h1 : Rep Γ.w0 Γ.S (star [purow q'.2.1 q'.1.puts, flrow q'.2.2 q'.1.fl] :: fam (upd (lI Q) k none) :: H) w := Rep.shutS (L := [purow q'.2.1 q'.1.puts, flrow q'.2.2 q'.1.fl]) hw
  have h2 := h1.unfocus (upd_at ..)
  rw [lI_set hk] at h2
  exact c a w ha h2
theorem At.appendFl {i j t e by_ b U : Nat} {ti : TypeInfo} {z : Value} {l : List Nat} {c : Nat} (ht : P.underlying t = some (.slice e)) (hti : P.info? e = some ti) (hz : ti.zero = some z) (hsize : ti.size = 1) (hby : ti.bytes = by_) (hzs : z.cells.size = 1) (he : e = tI)
    (hx : ev E x = some v) (hy : ev E y = some (.slice (some ⟨b, 0, none⟩) 1 1)) (hi : H[i]? = some (flrow v l)) (hj : H[j]? = some (blk b U [.int .i64 (c : Int)])) (h63 : (l.length + 1) * by_ ≤ 140737488355328) (h64 : l.length + 1 ≤ 140737488355328) (hn : Nat.blt d Γ.n = true)
    (k : ∀ v', At Γ ((d, v') :: E) (H.set i (flrow v' (l ++ [c]))) (wpList P ops R rest)) :
    At Γ E H (wpList P ops R ({ dst := some d, op := .call { callee := .builtin .append, args := #[x, y], argTypes := #[t, t] }, type := ty, pos, after, guard := none } :: rest)) := by
  subst he
  exact At.append (i := i) (ys := [.int .i64 (c : Int)]) ht hti hz hsize hby hzs rfl hx hy hi rfl (fun w hw j' u hj' => by rw [Nat.zero_add]; exact ((hw.blk hj).cell j').trans hj') (by simp [Value.oneCell']) h63 h64 hn fun v' => by
    have := k v'
    simpa only [flrow, fC, List.map_append, List.map_cons, List.map_nil, List.length_append, List.length_cons, List.length_nil, Nat.zero_add] using this
theorem At.appendPu {i j t e by_ b U : Nat} {ti : TypeInfo} {z : Value} {l : List (Nat × BitVec 64 × Nat)} {c : Nat × BitVec 64 × Nat} (ht : P.underlying t = some (.slice e)) (hti : P.info? e = some ti) (hz : ti.zero = some z) (hsize : ti.size = 3) (hby : ti.bytes = by_) (hzs : z.cells.size = 3) (he : e = tPu)
    (hx : ev E x = some v) (hy : ev E y = some (.slice (some ⟨b, 0, none⟩) 1 1)) (hi : H[i]? = some (purow v l)) (hj : H[j]? = some (blk b U [.int .i64 (c.1 : Int), b64 c.2.1, .int .i64 (c.2.2 : Int)])) (h63 : (l.length + 1) * by_ ≤ 140737488355328) (h64 : l.length + 1 ≤ 140737488355328) (hn : Nat.blt d Γ.n = true)
    (k : ∀ v', At Γ ((d, v') :: E) (H.set i (purow v' (l ++ [c]))) (wpList P ops R rest)) :
    At Γ E H (wpList P ops R ({ dst := some d, op := .call { callee := .builtin .append, args := #[x, y], argTypes := #[t, t] }, type := ty, pos, after, guard := none } :: rest)) := by
  subst he
  exact At.append (i := i) (ys := [.int .i64 (c.1 : Int), b64 c.2.1, .int .i64 (c.2.2 : Int)]) ht hti hz hsize hby hzs rfl hx hy hi rfl (fun w hw j' u hj' => by rw [Nat.zero_add]; exact ((hw.blk hj).cell j').trans hj')
    (by intro u hu; simp only [List.mem_cons, List.not_mem_nil, or_false] at hu; rcases hu with rfl | rfl | rfl <;> rfl) h63 h64 hn fun v' => by
    have := k v'
    simpa only [purow, pC_snoc, List.length_append, List.length_cons, List.length_nil, Nat.zero_add] using this
theorem At.rot2 {a b c : Res} (h : At Γ E (b :: c :: a :: F) φ) : At Γ E (a :: b :: c :: F) φ := fun q w ha hw => h q w ha (hw.perm (List.perm_middle (l₁ := [b, c])).symm)
/-! ### contracts -/
def RDevU (P : Program) (f : FuncId) (vs : List Value) (p : Nat) (γ : Rg) (ρ : Rs) (v : Value) (ρ' : Rs) (w : World) : Prop := Calls P f vs.toArray w fun e w' => ∃ γ', e = .returned v ∧ Rep w (feet [RDev p γ ρ]) [RDev p γ' ρ'] w'
theorem At.callRD (i : Nat) {f : FuncId} {l : List Operand} {vs : List Value} {at_ : Array TypeId} (hi : H[i]? = some (RDev p γ ρ)) (h : ∀ w, Rep Γ.w0 Γ.S H w → (RDev p γ ρ).holds w → RDevU P f vs p γ ρ v ρ' w) (hc : ∀ args w, (callFunc f args).run P w = .ok (.enter f args) w) (hv : evs E l = some vs) (hn : Nat.blt d Γ.n = true)
    (c : ∀ γ', At Γ ((d, v) :: E) (H.set i (RDev p γ' ρ')) (wpList P ops R rest)) :
    At Γ E H (wpList P ops R ({ dst := some d, op := .call { callee := .value (.func f), args := l.toArray, argTypes := at_ }, type := ty, pos, after, guard := none } :: rest)) :=
  At.call hc hv hn fun w hw => (h w hw (hw.all _ (List.mem_of_getElem? hi))).mono fun e w' ⟨γ', he, hr⟩ => ⟨v, _, he, Rep.frame1 (X := []) hi hw hr, c γ'⟩
def NewRDev (P : Program) (f : FuncId) (vs : List Value) (ρ : Rs) (w : World) : Prop := Calls P f vs.toArray w fun e w' => ∃ p γ, e = .returned (.tuple #[.pointer (some ⟨p, 0, none⟩), .int .i64 0]) ∧ Rep w (feet []) [RDev p γ ρ] w'
theorem At.callNRD {f : FuncId} {l : List Operand} {vs : List Value} {at_ : Array TypeId} (h : ∀ w, Rep Γ.w0 Γ.S H w → NewRDev P f vs ρ w) (hc : ∀ args w, (callFunc f args).run P w = .ok (.enter f args) w) (hv : evs E l = some vs) (hn : Nat.blt d Γ.n = true)
    (c : ∀ p γ, At Γ ((d, .tuple #[.pointer (some ⟨p, 0, none⟩), .int .i64 0]) :: E) (RDev p γ ρ :: H) (wpList P ops R rest)) :
    At Γ E H (wpList P ops R ({ dst := some d, op := .call { callee := .value (.func f), args := l.toArray, argTypes := at_ }, type := ty, pos, after, guard := none } :: rest)) :=
  At.call hc hv hn fun w hw => (h w hw).mono fun e w' ⟨p, γ, he, hr⟩ => ⟨_, _, he, by
    have := Rep.frame (H0 := []) (F := H) (by simpa using hw) hr
    simpa using this, c p γ⟩
/-- A call that changes the document's device; something is known of what it is then. -/
def RDevP (P : Program) (f : FuncId) (vs : List Value) (p : Nat) (γ : Rg) (ρ : Rs) (v : Value) (I : Rs → Prop) (w : World) : Prop := Calls P f vs.toArray w fun e w' => ∃ γ' ρ', e = .returned v ∧ I ρ' ∧ Rep w (feet [RDev p γ ρ]) [RDev p γ' ρ'] w'
theorem At.callRP (i : Nat) {I : Rs → Prop} {f : FuncId} {l : List Operand} {vs : List Value} {at_ : Array TypeId} (hi : H[i]? = some (RDev p γ ρ)) (h : ∀ w, Rep Γ.w0 Γ.S H w → (RDev p γ ρ).holds w → RDevP P f vs p γ ρ v I w) (hc : ∀ args w, (callFunc f args).run P w = .ok (.enter f args) w) (hv : evs E l = some vs) (hn : Nat.blt d Γ.n = true)
    (c : ∀ γ' ρ', I ρ' → At Γ ((d, v) :: E) (H.set i (RDev p γ' ρ')) (wpList P ops R rest)) :
    At Γ E H (wpList P ops R ({ dst := some d, op := .call { callee := .value (.func f), args := l.toArray, argTypes := at_ }, type := ty, pos, after, guard := none } :: rest)) :=
  At.call hc hv hn fun w hw => (h w hw (hw.all _ (List.mem_of_getElem? hi))).mono fun e w' ⟨γ', ρ', he, hI, hr⟩ => ⟨v, _, he, Rep.frame1 (X := []) hi hw hr, c γ' ρ' hI⟩
theorem RDevU.toP {f : FuncId} {vs : List Value} {I : Rs → Prop} (h : RDevU P f vs p γ ρ v ρ' w) (hI : I ρ') : RDevP P f vs p γ ρ v I w := h.mono fun e w' ⟨γ', he, hr⟩ => ⟨γ', ρ', he, hI, hr⟩
theorem upd_toP {f : FuncId} {vs : List Value} {I : Rs → Prop} (h : Upd P f vs (RDev p γ ρ) v (RDev p γ ρ) w) (hI : I ρ) : RDevP P f vs p γ ρ v I w := h.mono fun e w' ⟨he, hr⟩ => ⟨γ, ρ, he, hI, hr⟩
/-- A call that reads one resource and makes a row, and answers something around it. -/
def RowKT (P : Program) (f : FuncId) (vs : List Value) (r : Res) (gv : Value → Value) (e sz n : Nat) (xs : List Value) (w : World) : Prop := Calls P f vs.toArray w fun q w' => ∃ v', q = .returned (gv v') ∧ Rep w (feet [r]) [rowR v' e sz n xs, r] w'
theorem At.callRKT (i : Nat) {r : Res} {gv : Value → Value} {e sz n : Nat} {xs : List Value} {f : FuncId} {l : List Operand} {vs : List Value} {at_ : Array TypeId} (hi : H[i]? = some r) (h : ∀ w, Rep Γ.w0 Γ.S H w → r.holds w → RowKT P f vs r gv e sz n xs w) (hc : ∀ args w, (callFunc f args).run P w = .ok (.enter f args) w) (hv : evs E l = some vs) (hn : Nat.blt d Γ.n = true)
    (c : ∀ v', At Γ ((d, gv v') :: E) (rowR v' e sz n xs :: H) (wpList P ops R rest)) :
    At Γ E H (wpList P ops R ({ dst := some d, op := .call { callee := .value (.func f), args := l.toArray, argTypes := at_ }, type := ty, pos, after, guard := none } :: rest)) :=
  At.call hc hv hn fun w hw => (h w hw (hw.all _ (List.mem_of_getElem? hi))).mono fun q w' ⟨v', he, hr⟩ => ⟨gv v', _, he, by
    have h1 : Rep Γ.w0 Γ.S ([r] ++ H.eraseIdx i) w := hw.perm (erase_perm H i r hi)
    exact (h1.frame (H0' := [rowR v' e sz n xs, r]) hr).perm ((erase_perm H i r hi).symm.cons _), c v'⟩
theorem enterR {f : FuncId} {fn : Func} {c : Code} {vs : List Value} {w : World} {R : Ending → World → Prop} {n : Nat} (hd : (RDev p γ ρ).holds w) (hf : P.funcs[f]? = some fn) (hb : fn.body = some c) (hn : fn.ntmps = n) (hl : Nat.ble vs.length n = true)
    (k : At ⟨w, feet [RDev p γ ρ], n, []⟩ (envOf 0 vs) (rdevL p γ ρ) (c.wp P (bodyPost P fn R))) : Calls P f vs.toArray w R := enter (feet [RDev p γ ρ]) (rdevL p γ ρ) hf hb hn hl (Rep.of_star (r := RDev p γ ρ) hd) k
theorem enterRc {f : FuncId} {fn : Func} {c : Code} {vs : List Value} {w : World} {R : Ending → World → Prop} {n : Nat} (hd : (RDev p γ ρ).holds w) (hf : P.funcs[f]? = some fn) (hb : fn.body = some c) (hn : fn.ntmps = n) (hl : Nat.ble vs.length n = true)
    (k : At ⟨w, feet [RDev p γ ρ], n, []⟩ (envOf 0 vs) [RDev p γ ρ] (c.wp P (bodyPost P fn R))) : Calls P f vs.toArray w R := enter (feet [RDev p γ ρ]) [RDev p γ ρ] hf hb hn hl (Rep.one hd) k
theorem retR {F : List Res} (hw : Rep w S (rdevL p γ ρ ++ F) w') : Rep w S [RDev p γ ρ] w' := (hw.shutS).drop ((List.nil_sublist F).cons_cons _)
theorem retRR {r : Res} {F : List Res} (hw : Rep w S (r :: rdevL p γ ρ ++ F) w') : Rep w S [r, RDev p γ ρ] w' := by
  have h1 : Rep w S (rdevL p γ ρ ++ (r :: F)) w' := hw.perm (List.perm_middle (l₁ := rdevL p γ ρ)).symm
  exact ((h1.shutS).perm (List.Perm.swap ..)).drop ((List.nil_sublist F).cons_cons _ |>.cons_cons _)
theorem toRDev {F : List Res} {a b c : Res} (hq : γ.Q.map Prod.fst = ρ.ls) (hg : Rgood ρ) (hw : Rep w S (a :: b :: c :: F) w') (ha : a = blk p tRD [γ.vl, .int .i64 (ρ.fenced : Int), .int .i64 (ρ.now : Int), .int .i64 ρ.left]) (hb : b = rowR γ.vl tLn 10 γ.Q.length (lC γ.Q)) (hc : c = fam (lI γ.Q)) : Rep w S (RDev p γ ρ :: F) w' := by
  subst ha hb hc
  have h1 : Rep w S (factR (γ.Q.map Prod.fst = ρ.ls ∧ Rgood ρ) :: _) w' := Rep.fact ⟨hq, hg⟩ hw
  have h2 : Rep w S (rdevL p γ ρ ++ F) w' := h1.perm (List.perm_middle (l₁ := [_, _, _]) (a := factR (γ.Q.map Prod.fst = ρ.ls ∧ Rgood ρ)) (l₂ := F)).symm
  exact h2.shutS
theorem toRDev1 {F : List Res} {a b c : Res} (hq : γ.Q.map Prod.fst = ρ.ls) (hg : Rgood ρ) (hw : Rep w S (a :: b :: c :: F) w') (ha : a = blk p tRD [γ.vl, .int .i64 (ρ.fenced : Int), .int .i64 (ρ.now : Int), .int .i64 ρ.left]) (hb : b = rowR γ.vl tLn 10 γ.Q.length (lC γ.Q)) (hc : c = fam (lI γ.Q)) : Rep w S [RDev p γ ρ] w' :=
  (toRDev hq hg hw ha hb hc).drop ((List.nil_sublist F).cons_cons _)
end
end Go.Wk
