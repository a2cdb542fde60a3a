/- Lists of doubts: an int, a word and a row of words each; what owns them, and how they are read. -/
import Derived.Test.YtgighokkflchmaaDn
import Derived.Lib.BufferMore
set_option linter.unusedVariables false
set_option linter.unusedSimpArgs false
namespace Go.Wk
open Go
abbrev Dt := Int × BitVec 64 × List (BitVec 64)
abbrev Dq := Dt × Value
abbrev tDt : TypeId := 74
def dC (Q : List Dq) : List Value := Q.flatMap fun x => [.int .i64 x.1.1, b64 x.1.2.1, x.2]
theorem dC_append (a b : List Dq) : dC (a ++ b) = dC a ++ dC b := by simp [dC]
theorem dC_length (a : List Dq) : (dC a).length = a.length * 3 := by induction a with
  | nil => rfl
  | cons c a ih => simp only [dC, List.flatMap_cons, List.length_append, List.length_cons] at *; rw [ih]; simp; omega
theorem dC_at : ∀ {L : List Dq} {j i : Nat} {c : Dq} {u : Value}, L[j]? = some c → ([.int .i64 c.1.1, b64 c.1.2.1, c.2] : List Value)[i]? = some u → (dC L)[j * 3 + i]? = some u
  | d :: L, 0, i, c, u, h, hu => by
    have : d = c := by simpa using h
    subst this
    have hi : i < 3 := (List.getElem?_eq_some_iff.1 hu).1
    show ([.int .i64 d.1.1, b64 d.1.2.1, d.2] ++ dC L)[0 * 3 + i]? = some u
    rw [Nat.zero_mul, Nat.zero_add, List.getElem?_append_left hi]; exact hu
  | d :: L, j + 1, i, c, u, h, hu => by
    have h' : L[j]? = some c := by simpa using h
    have := dC_at h' hu
    show ([.int .i64 d.1.1, b64 d.1.2.1, d.2] ++ dC L)[(j + 1) * 3 + i]? = some u
    rw [List.getElem?_append_right (by simp; omega)]
    simpa [show (j + 1) * 3 + i - 3 = j * 3 + i by omega] using this
def newsR (Q : List Dq) : List Res := Q.map fun x => wrow tW x.2 x.1.2.2
abbrev drow (v : Value) (Q : List Dq) : Res := rowR v tDt 3 Q.length (dC Q)
def dbtR (v : Value) (Q : List Dq) : Res := star (drow v Q :: newsR Q)
theorem drow_snoc (v : Value) (Q : List Dq) (x : Dq) : drow v (Q ++ [x]) = rowR v tDt 3 (Q.length + 1) (dC Q ++ [.int .i64 x.1.1, b64 x.1.2.1, x.2]) := by unfold drow; rw [dC_append, List.length_append]; rfl
theorem newsR_snoc (Q : List Dq) (x : Dq) : newsR (Q ++ [x]) = newsR Q ++ [wrow tW x.2 x.1.2.2] := by simp [newsR]
section
variable {P : Program} {Γ : Ctx} {E : Env} {H L F : List Res} {ops : Array Oper} {R : Exit → Act → World → Prop} {rest : List Oper} {w0 w w' : World} {S : Nat → Prop} {φ : Act → World → Prop} {ψ : Act → Prop}
  {d : Nat} {dst : Option Tmp} {g : Option (Nat × Bool)} {ty : TypeId} {pos : String} {after : Array Edge} {x y z : Operand} {v u : Value} {Q : List Dq} {q : Dq}
theorem dbt_row (h : (dbtR v Q).holds w) : w.ownsRow 0 tDt 3 v Q.length (dC Q) := h.2 (drow v Q) (List.mem_cons_self ..)
theorem dbt_news {k : Nat} (h : (dbtR v Q).holds w) (hk : Q[k]? = some q) : RdW w q.2 q.1.2.2 :=
  row_rd (h.2 (wrow tW q.2 q.1.2.2) (List.mem_cons_of_mem _ (List.mem_map.2 ⟨q, List.mem_of_getElem? hk, rfl⟩))) (by decide)
theorem Val.lenDb {i t el : Nat} (hi : H[i]? = some (dbtR v Q)) (hu : P.underlying t = some (.slice el)) (hx : ev E x = some v) :
    Val P Γ E H ⟨dst, .call { callee := .builtin .len, args := #[x], argTypes := #[t] }, ty, pos, after, g⟩ (.int .i64 Q.length) := fun a w ha hw =>
  Val.lenRd (row_rd (dbt_row (hw.all _ (List.mem_of_getElem? hi))) (by decide)) hu hx a w ha hw
theorem Val.indexDb {i t el : Nat} {k : IntKind} {j : Int} (n : Nat) (hn : j.toNat * 3 = n) (hu : P.underlying t = some (.slice el)) (hs : ∀ w, (sizeOf el).run P w = .ok 3 w) (hx : ev E x = some v) (hy : ev E y = some (.int k j))
    (hi : H[i]? = some (dbtR v Q)) (h0 : 0 ≤ j) (h1 : j < Q.length) : Val P Γ E H ⟨dst, .indexAddr t x y, ty, pos, after, g⟩ (.pointer (some ⟨rowB v, n, none⟩)) := fun a w ha hw => by
  have h := dbt_row (hw.all _ (List.mem_of_getElem? hi))
  rcases h.2 with ⟨rfl, h2⟩ | ⟨b, cap, cur, rfl, _⟩
  · omega
  · have := Val.indexSl (P := P) (Γ := Γ) (E := E) (H := H) (dst := dst) (g := g) (ty := ty) (pos := pos) (after := after) (y := y) (o := 0) n (by omega) hu hs hx hy h0 h1 a w ha hw
    simpa [rowB, Value.ownBlock] using this
theorem Val.loadDb {i t n k : Nat} (j : Nat) (hA : ∀ w, (isAgg t).run P w = .ok false w) (hx : ev E x = some (.pointer (some ⟨rowB v, n, none⟩))) (hi : H[i]? = some (dbtR v Q)) (hn : n = k * 3 + j) (hk : Q[k]? = some q) (hu : ([.int .i64 q.1.1, b64 q.1.2.1, q.2] : List Value)[j]? = some u) :
    Val P Γ E H ⟨dst, .load t x, ty, pos, after, g⟩ u := fun a w ha hw => by
  subst hn
  have := run_loadAt_cell (P := P) hA (row_cell (dbt_row (hw.all _ (List.mem_of_getElem? hi))) (dC_at hk hu))
  simp [execOp, ha.eval hx, Sem.run_bind, this]
/-- A call that reads one resource and makes a list of doubts. -/
def DbtK (P : Program) (f : FuncId) (vs : List Value) (r : Res) (D : List Dt) (w : World) : Prop := Calls P f vs.toArray w fun e w' => ∃ v' Q, e = .returned v' ∧ Q.map Prod.fst = D ∧ Rep w (feet [r]) [dbtR v' Q, r] w'
theorem At.callDB (i : Nat) {r : Res} {D : List Dt} {f : FuncId} {l : List Operand} {vs : List Value} {at_ : Array TypeId} (hi : H[i]? = some r) (h : ∀ w, Rep Γ.w0 Γ.S H w → r.holds w → DbtK P f vs r D w) (hc : ∀ args w, (callFunc f args).run P w = .ok (.enter f args) w) (hv : evs E l = some vs) (hn : Nat.blt d Γ.n = true)
    (c : ∀ v' Q, Q.map Prod.fst = D → At Γ ((d, v') :: E) (dbtR v' Q :: H) (wpList P ops R rest)) :
    At Γ E H (wpList P ops R ({ dst := some d, op := .call { callee := .value (.func f), args := l.toArray, argTypes := at_ }, type := ty, pos, after, guard := none } :: rest)) :=
  At.call hc hv hn fun w hw => (h w hw (hw.all _ (List.mem_of_getElem? hi))).mono fun e w' ⟨v', Q, he, hQ, hr⟩ => ⟨v', _, he, by
    have h1 : Rep Γ.w0 Γ.S ([r] ++ H.eraseIdx i) w := hw.perm (erase_perm H i r hi)
    exact (h1.frame (H0' := [dbtR v' Q, r]) hr).perm ((erase_perm H i r hi).symm.cons _), c v' Q hQ⟩
theorem Rep.starNil (h : Rep w0 S H w) : Rep w0 S (star [] :: H) w := Rep.shutS (L := []) h
theorem At.starNil (k : At Γ E (star [] :: H) φ) : At Γ E H φ := fun a w ha hw => k a w ha hw.starNil
theorem At.starPush {r : Res} (k : At Γ E (star (L ++ [r]) :: H) φ) : At Γ E (r :: star L :: H) φ := fun a w ha hw => by
  have h1 : Rep Γ.w0 Γ.S (L ++ (r :: H)) w := (hw.perm (List.Perm.swap ..)).openS
  have h2 : Rep Γ.w0 Γ.S ((L ++ [r]) ++ H) w := by rwa [List.append_assoc]
  exact k a w ha h2.shutS
theorem Rep.toDbt (h : Rep w0 S (star (newsR Q) :: drow v Q :: H) w) : Rep w0 S (dbtR v Q :: H) w := by
  have h1 : Rep w0 S (newsR Q ++ (drow v Q :: H)) w := h.openS
  have h2 : Rep w0 S ((drow v Q :: newsR Q) ++ H) w := h1.perm List.perm_middle
  exact h2.shutS
theorem win_rd {e : Nat} {xs : List Value} (h : Win w v e xs) : Rd w v 1 xs.length xs := by
  rcases h with ⟨rfl, rfl⟩ | ⟨b, o, c, cur, rfl, hb, h1, h2, h3, h4⟩
  · exact Rd.nil w 1
  · exact ⟨_, c, rfl, fun j u hj => ⟨b, o, rfl, by rw [cell_of_row w _ _ cur e _ hb]; exact h4 j u hj⟩, by simp, h1, (fun h => by cases h), (fun _ a h => by cases h; rfl)⟩
theorem dbt_win {i k : Nat} {ws : List Wd} {g : Nat → Nat × Value} {wd : Wd} (hw : Rep w0 S H w) (hi : H[i]? = some (fam (dI ws g))) (hk : ws[k]? = some wd) (hn : wd.news ≠ []) : RdW w (g k).2 wd.news := by
  have := win_rd (fam_dbt (hw.all _ (List.mem_of_getElem? hi)) hk hn).2
  rwa [List.length_map] at this
theorem Val.eqNilS {t t' el : TypeId} {a' : Addr} {n c : Nat} (h : P.underlying t = some (.slice el)) (hx : ev E x = some (.slice (some a') n c)) : Val P Γ E H ⟨dst, .binOp .eql t x (.const (.slice none 0 0)) t', ty, pos, after, g⟩ (.bool false) := fun a w ha _ => by
  have hc : a.eval (.const (.slice none 0 0)) = .slice none 0 0 := rfl
  simp [execOp, ha.eval hx, hc, eqGuard, Lib.run_eql_slice_some_nil w a' n c h]
theorem rd_some {sz n : Nat} {xs : List Value} (h : Rd w v sz n xs) (hn : 0 < n) : ∃ a c, v = .slice (some a) n c := by
  obtain ⟨A, c, rfl, _, _, _, h0, _⟩ := h
  cases A with
  | none => have := (h0 rfl).1; omega
  | some a => exact ⟨a, c, rfl⟩
theorem At.appendRdW {i t e by_ : Nat} {ti : TypeInfo} {z : Value} {vy : Value} {l m : List (BitVec 64)} (ht : P.underlying t = some (.slice e)) (hti : P.info? e = some ti) (hz : ti.zero = some z) (hsize : ti.size = 1) (hby : ti.bytes = by_) (hzs : z.cells.size = 1)
    (hx : ev E x = some v) (hy : ev E y = some vy) (hi : H[i]? = some (rowR v e 1 l.length (l.map b64))) (hr : RdW Γ.w0 vy m) (ho : Off vy (m.map b64) Γ.S) (h63 : (l.length + m.length) * by_ ≤ 140737488355328) (h64 : l.length + m.length ≤ 140737488355328) (hn : Nat.blt d Γ.n = true)
    (k : ∀ v', At Γ ((d, v') :: E) (H.set i (wrow e v' (l ++ m))) (wpList P ops R rest)) :
    At Γ E H (wpList P ops R ({ dst := some d, op := .call { callee := .builtin .append, args := #[x, y], argTypes := #[t, t] }, type := ty, pos, after, guard := none } :: rest)) :=
  At.appendRd ht hti hz hsize hby hzs rfl hx hy hi hr ho (fun u hu => by obtain ⟨c, _, rfl⟩ := List.mem_map.1 hu; rfl) h63 h64 hn fun v' => by
    have := k v'
    simpa only [wrow, List.map_append, List.length_append] using this
theorem At.appendD1 {i j t e by_ b U : Nat} {ti : TypeInfo} {z : Value} {c : Dq} (ht : P.underlying t = some (.slice e)) (hti : P.info? e = some ti) (hz : ti.zero = some z) (hsize : ti.size = 3) (hby : ti.bytes = by_) (hzs : z.cells.size = 3) (he : e = tDt)
    (hx : ev E x = some v) (hy : ev E y = some (.slice (some ⟨b, 0, none⟩) 1 1)) (hi : H[i]? = some (drow v Q)) (hj : H[j]? = some (blk b U [.int .i64 c.1.1, b64 c.1.2.1, c.2])) (h1 : c.2.oneCell' = true) (h63 : (Q.length + 1) * by_ ≤ 140737488355328) (h64 : Q.length + 1 ≤ 140737488355328) (hn : Nat.blt d Γ.n = true)
    (k : ∀ v', At Γ ((d, v') :: E) (H.set i (drow v' (Q ++ [c]))) (wpList P ops R rest)) :
    At Γ E H (wpList P ops R ({ dst := some d, op := .call { callee := .builtin .append, args := #[x, y], argTypes := #[t, t] }, type := ty, pos, after, guard := none } :: rest)) := by
  subst he
  exact At.append (i := i) (ys := [.int .i64 c.1.1, b64 c.1.2.1, c.2]) ht hti hz hsize hby hzs rfl hx hy hi rfl (fun w hw j' u hj' => by rw [Nat.zero_add]; exact ((hw.blk hj).cell j').trans hj')
    (by intro u hu; simp only [List.mem_cons, List.not_mem_nil, or_false] at hu; rcases hu with rfl | rfl | rfl; exact rfl; exact rfl; exact h1) h63 h64 hn fun v' => by
    have := k v'
    rwa [drow_snoc] at this
theorem dbt_nrow {k : Nat} (h : (dbtR v Q).holds w) (hk : Q[k]? = some q) : w.ownsRow 0 tW 1 q.2 q.1.2.2.length (q.1.2.2.map b64) :=
  h.2 (wrow tW q.2 q.1.2.2) (List.mem_cons_of_mem _ (List.mem_map.2 ⟨q, List.mem_of_getElem? hk, rfl⟩))
theorem Val.lenNews {i k t el : Nat} (hi : H[i]? = some (dbtR v Q)) (hk : Q[k]? = some q) (hu : P.underlying t = some (.slice el)) (hx : ev E x = some q.2) :
    Val P Γ E H ⟨dst, .call { callee := .builtin .len, args := #[x], argTypes := #[t] }, ty, pos, after, g⟩ (.int .i64 q.1.2.2.length) := fun a w ha hw =>
  Val.lenRd (dbt_news (hw.all _ (List.mem_of_getElem? hi)) hk) hu hx a w ha hw
theorem Val.indexNews {i k t el : Nat} {kd : IntKind} {j : Int} (n : Nat) (hn : j.toNat = n) (hi : H[i]? = some (dbtR v Q)) (hk : Q[k]? = some q) (hu : P.underlying t = some (.slice el)) (hs : ∀ w, (sizeOf el).run P w = .ok 1 w) (hx : ev E x = some q.2) (hy : ev E y = some (.int kd j))
    (h0 : 0 ≤ j) (h1 : j < q.1.2.2.length) : Val P Γ E H ⟨dst, .indexAddr t x y, ty, pos, after, g⟩ (.pointer (some ⟨rowB q.2, n, none⟩)) := fun a w ha hw => by
  have h := dbt_nrow (hw.all _ (List.mem_of_getElem? hi)) hk
  obtain ⟨⟨q1, q2, q3⟩, qv⟩ := q
  rcases h.2 with ⟨h3, h2⟩ | ⟨b, cap, cur, h3, _⟩
  · simp only at h2 h1; omega
  · simp only at h3 hx
    subst h3
    have := Val.indexSl (P := P) (Γ := Γ) (E := E) (H := H) (dst := dst) (g := g) (ty := ty) (pos := pos) (after := after) (y := y) (o := 0) n (by omega) hu hs hx hy h0 h1 a w ha hw
    simpa [rowB, Value.ownBlock] using this
theorem Val.loadNewsD {i k t n : Nat} {z' : BitVec 64} (hA : ∀ w, (isAgg t).run P w = .ok false w) (hx : ev E x = some (.pointer (some ⟨rowB q.2, n, none⟩))) (hi : H[i]? = some (dbtR v Q)) (hk : Q[k]? = some q) (hu : q.1.2.2[n]? = some z') :
    Val P Γ E H ⟨dst, .load t x, ty, pos, after, g⟩ (b64 z') := fun a w ha hw => by
  have := run_loadAt_cell (P := P) hA (row_cell (u := b64 z') (dbt_nrow (hw.all _ (List.mem_of_getElem? hi)) hk) (by rw [List.getElem?_map, hu]; rfl))
  simp [execOp, ha.eval hx, Sem.run_bind, this]
theorem Rep.offRow {i j : Nat} {r : Res} {e sz n : Nat} {xs : List Value} (hw : Rep w0 S H w) (hi : H[i]? = some (rowR v e sz n xs)) (hj : H[j]? = some r) (hij : i ≠ j) : Off v xs (feet [r]) := fun _ b o s n c hv ⟨q, hq, hb⟩ => by
  rw [List.mem_singleton.1 hq] at hb
  have hi' := List.getElem?_eq_some_iff.1 hi
  have hj' := List.getElem?_eq_some_iff.1 hj
  have hp := List.pairwise_iff_getElem.1 hw.sep
  have hf : (rowR v e sz n xs : Res).foot b := by subst hv; rfl
  rcases Nat.lt_or_gt_of_ne hij with h | h
  · have := hp i j hi'.1 hj'.1 h
    rw [hi'.2, hj'.2] at this
    exact this b hf hb
  · have := hp j i hj'.1 hi'.1 h
    rw [hi'.2, hj'.2] at this
    exact this b hb hf
theorem QAt.idxF {α : Type} {f : α → Value} {t el : Nat} {l : List α} {k : IntKind} {j : Int} (h : Rd Γ.w0 v 1 l.length (l.map f)) (hu : P.underlying t = some (.slice el)) (hs : ∀ w, (sizeOf el).run P w = .ok 1 w) (hx : ev E x = some v) (hy : ev E y = some (.int k j)) (h0 : 0 ≤ j) (h1 : j < l.length)
    (hg : g = none) (hn : Nat.blt d Γ.n = true)
    (c : ∀ b o q, l[j.toNat]? = some q → Γ.w0.cell? ⟨b, o, none⟩ = some (f q) → QAt P Γ ops ((d, .pointer (some ⟨b, o, none⟩)) :: E) H rest ψ) :
    QAt P Γ ops E H ({ dst := some d, op := .indexAddr t x y, type := ty, pos, after, guard := g } :: rest) ψ :=
  QAt.idxRd h hu hs hx hy h0 h1 hg hn fun b o hc => by
    have hq : l[j.toNat]? = some (l[j.toNat]'(by omega)) := List.getElem?_eq_getElem _
    exact c b o _ hq (hc 0 _ (by rw [Nat.mul_one, Nat.add_zero, List.getElem?_map, hq]; rfl))
end
end Go.Wk
