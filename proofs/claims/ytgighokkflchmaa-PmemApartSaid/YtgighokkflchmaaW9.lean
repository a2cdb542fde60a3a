/- The calculus: lists of pairs of numbers. -/
import Derived.Test.YtgighokkflchmaaWv
import Derived.Test.YtgighokkflchmaaW8
set_option linter.unusedVariables false
set_option linter.unusedSimpArgs false
namespace Go.Wk
open Go
section
variable {P : Program} {Γ : Ctx} {E E' : Env} {H HS : List Res} {ops : Array Oper} {Q : Exit → Act → World → Prop} {rest : List Oper}
  {d : Nat} {dst : Option Tmp} {ty : TypeId} {pos : String} {after : Array Edge} {x y z : Operand} {v u vy : Value} {g : Option (Nat × Bool)} {ψ : Act → Prop} {t' fuel : Nat} {listed : Array Bool}
/-! ### lists of pairs -/
def prS (l : List (Int × Int)) : List Value := l.flatMap fun c => [.int .i64 c.1, .int .i64 c.2]
theorem prS_append (a b : List (Int × Int)) : prS (a ++ b) = prS a ++ prS b := by simp [prS]
theorem prS_length (a : List (Int × Int)) : (prS a).length = a.length * 2 := by induction a with
  | nil => rfl
  | cons c a ih => simp only [prS, List.flatMap_cons, List.length_append, List.length_cons] at *; rw [ih]; simp; omega
theorem prS_at : ∀ {L : List (Int × Int)} {j : Nat} {c : Int × Int}, L[j]? = some c → (prS L)[j * 2]? = some (.int .i64 c.1) ∧ (prS L)[j * 2 + 1]? = some (.int .i64 c.2)
  | d :: L, 0, c, h => by
    have : d = c := by simpa using h
    subst this; exact ⟨rfl, rfl⟩
  | d :: L, j + 1, c, h => by
    have h' : L[j]? = some c := by simpa using h
    have := prS_at h'
    rw [show (j + 1) * 2 = j * 2 + 1 + 1 by omega]
    exact this
theorem prS_one (l : List (Int × Int)) : ∀ u ∈ prS l, u.oneCell' = true := fun u hu => by
  unfold prS at hu
  obtain ⟨c, _, hc⟩ := List.mem_flatMap.1 hu
  rcases List.mem_cons.1 hc with rfl | hc
  · rfl
  · obtain rfl := List.mem_singleton.1 hc
    rfl
theorem prS_take : ∀ (l : List (Int × Int)) (k : Nat), prS (l.take k) = (prS l).take (k * 2)
  | [], k => by simp [prS]
  | c :: l, 0 => by simp [prS]
  | c :: l, k + 1 => by
    rw [List.take_succ_cons, show (k + 1) * 2 = k * 2 + 1 + 1 by omega]
    simp only [prS, List.flatMap_cons, List.cons_append, List.nil_append, List.take_succ_cons]
    have := prS_take l k
    unfold prS at this
    rw [this]
abbrev RdS (w : World) (v : Value) (l : List (Int × Int)) : Prop := Rd w v 2 l.length (prS l)
abbrev srow (e : Nat) (v : Value) (l : List (Int × Int)) : Res := rowR v e 2 l.length (prS l)
theorem At.idxS {t el : Nat} {l : List (Int × Int)} {k : IntKind} {j : Int} (h : RdS Γ.w0 v l) (hu : P.underlying t = some (.slice el)) (hs : ∀ w, (sizeOf el).run P w = .ok 2 w) (hx : ev E x = some v) (hy : ev E y = some (.int k j)) (h0 : 0 ≤ j) (h1 : j < l.length)
    (hg : g = none) (hn : Nat.blt d Γ.n = true)
    (c : ∀ b o q, l[j.toNat]? = some q → Γ.w0.cell? ⟨b, o, none⟩ = some (.int .i64 q.1) → Γ.w0.cell? ⟨b, o + 1, none⟩ = some (.int .i64 q.2) → At Γ ((d, .pointer (some ⟨b, o, none⟩)) :: E) H (wpList P ops Q rest)) :
    At Γ E H (wpList P ops Q ({ dst := some d, op := .indexAddr t x y, type := ty, pos, after, guard := g } :: rest)) :=
  At.idxRd h hu hs hx hy h0 h1 hg hn fun b o hc => by
    have hq : l[j.toNat]? = some (l[j.toNat]'(by omega)) := List.getElem?_eq_getElem _
    have hp := prS_at hq
    exact c b o _ hq (hc 0 _ hp.1) (hc 1 _ hp.2)
theorem QAt.idxS {t el : Nat} {l : List (Int × Int)} {k : IntKind} {j : Int} (h : RdS Γ.w0 v l) (hu : P.underlying t = some (.slice el)) (hs : ∀ w, (sizeOf el).run P w = .ok 2 w) (hx : ev E x = some v) (hy : ev E y = some (.int k j)) (h0 : 0 ≤ j) (h1 : j < l.length)
    (hg : g = none) (hn : Nat.blt d Γ.n = true)
    (c : ∀ b o q, l[j.toNat]? = some q → Γ.w0.cell? ⟨b, o, none⟩ = some (.int .i64 q.1) → Γ.w0.cell? ⟨b, o + 1, none⟩ = some (.int .i64 q.2) → QAt P Γ ops ((d, .pointer (some ⟨b, o, none⟩)) :: E) H rest ψ) :
    QAt P Γ ops E H ({ dst := some d, op := .indexAddr t x y, type := ty, pos, after, guard := g } :: rest) ψ :=
  QAt.idxRd h hu hs hx hy h0 h1 hg hn fun b o hc => by
    have hq : l[j.toNat]? = some (l[j.toNat]'(by omega)) := List.getElem?_eq_getElem _
    have hp := prS_at hq
    exact c b o _ hq (hc 0 _ hp.1) (hc 1 _ hp.2)
theorem Val.loadSpan {t b o : Nat} {q : Int × Int} (hA : ∀ w, (isAgg t).run P w = .ok true w) (hs : ∀ w, (sizeOf t).run P w = .ok 2 w) (hx : ev E x = some (.pointer (some ⟨b, o, none⟩))) (h0 : Γ.w0.cell? ⟨b, o, none⟩ = some (.int .i64 q.1)) (h1 : Γ.w0.cell? ⟨b, o + 1, none⟩ = some (.int .i64 q.2)) (hS : ¬ Γ.S b) :
    Val P Γ E H ⟨dst, .load t x, ty, pos, after, g⟩ (.agg #[.int .i64 q.1, .int .i64 q.2]) :=
  Val.loadOldPart (vs := [.int .i64 q.1, .int .i64 q.2]) hA hs hx rfl (fun j u hj => by
    match j, hj with
    | 0, hj => (obtain rfl := Option.some.inj hj; exact h0)
    | 1, hj => (obtain rfl := Option.some.inj hj; exact h1)) hS
theorem At.rowNilS (e : Nat) {φ : Act → World → Prop} (k : At Γ E (srow e (.slice none 0 0) [] :: H) φ) : At Γ E H φ := At.rowNil e 2 k
theorem srow_snoc (e : Nat) (v : Value) (l : List (Int × Int)) (a : Int) (x : Int) : rowR v e 2 (l.length + 1) (prS l ++ [.int .i64 a, .int .i64 x]) = srow e v (l ++ [(a, x)]) := by
  unfold srow; rw [prS_append, List.length_append]; rfl
/-- A pair behind a row. -/
theorem At.appendS1 {i j t e by_ b U : Nat} {ti : TypeInfo} {z : Value} {l : List (Int × Int)} {a : Int} {w' : Int} (ht : P.underlying t = some (.slice e)) (hti : P.info? e = some ti) (hz : ti.zero = some z) (hsize : ti.size = 2) (hby : ti.bytes = by_) (hzs : z.cells.size = 2)
    (hx : ev E x = some v) (hy : ev E y = some (.slice (some ⟨b, 0, none⟩) 1 1)) (hi : H[i]? = some (rowR v e 2 l.length (prS l))) (hj : H[j]? = some (blk b U [.int .i64 a, .int .i64 w'])) (h63 : (l.length + 1) * by_ ≤ 140737488355328) (h64 : l.length + 1 ≤ 140737488355328) (hn : Nat.blt d Γ.n = true)
    (k : ∀ v', At Γ ((d, v') :: E) (H.set i (srow e v' (l ++ [(a, w')]))) (wpList P ops Q rest)) :
    At Γ E H (wpList P ops Q ({ dst := some d, op := .call { callee := .builtin .append, args := #[x, y], argTypes := #[t, t] }, type := ty, pos, after, guard := none } :: rest)) :=
  At.append (i := i) (ys := [.int .i64 a, .int .i64 w']) ht hti hz hsize hby hzs rfl hx hy hi rfl (fun w hw j' u hj' => by rw [Nat.zero_add]; exact ((hw.blk hj).cell j').trans hj') (by simp [Value.oneCell']) h63 h64 hn fun v' => by
    have := k v'
    rw [← srow_snoc] at this
    exact this
theorem At.appendRdS {i t e by_ : Nat} {ti : TypeInfo} {z : Value} {l m : List (Int × Int)} (ht : P.underlying t = some (.slice e)) (hti : P.info? e = some ti) (hz : ti.zero = some z) (hsize : ti.size = 2) (hby : ti.bytes = by_) (hzs : z.cells.size = 2)
    (hx : ev E x = some v) (hy : ev E y = some vy) (hi : H[i]? = some (rowR v e 2 l.length (prS l))) (hr : RdS Γ.w0 vy m) (ho : Off vy (prS m) Γ.S) (h63 : (l.length + m.length) * by_ ≤ 140737488355328) (h64 : l.length + m.length ≤ 140737488355328) (hn : Nat.blt d Γ.n = true)
    (k : ∀ v', At Γ ((d, v') :: E) (H.set i (srow e v' (l ++ m))) (wpList P ops Q rest)) :
    At Γ E H (wpList P ops Q ({ dst := some d, op := .call { callee := .builtin .append, args := #[x, y], argTypes := #[t, t] }, type := ty, pos, after, guard := none } :: rest)) :=
  At.appendRd ht hti hz hsize hby hzs rfl hx hy hi hr ho (prS_one m) h63 h64 hn fun v' => by
    have := k v'
    simpa only [srow, prS_append, List.length_append] using this
theorem prS_drop (l : List (Int × Int)) (k : Nat) (hk : k ≤ l.length) : (prS l).drop (k * 2) = prS (l.drop k) := by
  have h : prS l = prS (l.take k) ++ prS (l.drop k) := by rw [← prS_append, List.take_append_drop]
  have hl : (prS (l.take k)).length = k * 2 := by rw [prS_length, List.length_take, Nat.min_eq_left hk]
  rw [h, ← hl, List.drop_left]
theorem prS_set (l : List (Int × Int)) (k : Nat) (a : Int) (b : Int) (hk : k < l.length) : putAt (prS l) (k * 2) [.int .i64 a, .int .i64 b] = prS (l.set k (a, b)) := by
  rw [List.set_eq_take_append_cons_drop, if_pos hk, prS_append, prS_take]
  unfold putAt
  rw [List.append_assoc]
  congr 1
  rw [show k * 2 + [Value.int .i64 a, .int .i64 b].length = (k + 1) * 2 by simp; omega, prS_drop _ _ (by omega)]
  rfl
theorem At.storeSpanRow {i t e k : Nat} {a : Int} {b : Int} {l : List (Int × Int)} (hs : ∀ w, (sizeOf t).run P w = .ok 2 w) (hx : ev E x = some (.pointer (some ⟨rowB v, k * 2, none⟩))) (hy : ev E y = some (.agg #[.int .i64 a, .int .i64 b])) (hi : H[i]? = some (rowR v e 2 l.length (prS l))) (hk : k < l.length)
    (kk : At Γ E (H.set i (srow e v (l.set k (a, b)))) (wpList P ops Q rest)) : At Γ E H (wpList P ops Q ({ dst := .none, op := .store t x y, type := ty, pos, after, guard := none } :: rest)) :=
  At.skip rfl rfl fun a' w ha hw => by
    obtain ⟨w', hr, hw'⟩ := storeCells_row (P := P) [.int .i64 a, .int .i64 b] (k * 2) 0 (prS l) H w hw hi (by rw [prS_length]; simp; omega) (by simp [Value.oneCell'])
    rw [Nat.add_zero, prS_set l k a b hk] at hw'
    refine ⟨w', _, ?_, hw', ?_⟩
    · simp [execOp, ha.eval hx, ha.eval hy, Sem.run_bind, Instr.storeAt, Instr.sureAddr, storeVar, hs, Value.cells, hr]
    · have := kk
      unfold srow at this
      rwa [List.length_set] at this
end
end Go.Wk
