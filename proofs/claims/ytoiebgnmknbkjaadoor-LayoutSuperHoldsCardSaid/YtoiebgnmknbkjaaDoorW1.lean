/- The calculus: numbers that stay in their bounds; lists that are read, wherever they stand. -/
import Derived.Test.YtoiebgnmknbkjaaDoorLs
set_option linter.unusedVariables false
set_option linter.unusedSimpArgs false
namespace Go.Wk
open Go
section
variable {P : Program} {Γ : Ctx} {E : Env} {H : List Res} {ops : Array Oper} {Q : Exit → Act → World → Prop} {rest : List Oper}
  {d : Nat} {dst : Option Tmp} {g : Option (Nat × Bool)} {ty : TypeId} {pos : String} {after : Array Edge} {x y z : Operand} {v u : Value} {ψ : Act → Prop}
theorem Val.addI {t t' : TypeId} {a b : Int} (hx : ev E x = some (.int .i64 a)) (hy : ev E y = some (.int .i64 b)) (h0 : -9223372036854775808 ≤ a + b) (h1 : a + b ≤ 9223372036854775807) :
    Val P Γ E H ⟨dst, .binOp .add t x y t', ty, pos, after, g⟩ (.int .i64 (a + b)) := by
  have := Val.bin (P := P) (Γ := Γ) (H := H) (dst := dst) (g := g) (ty := ty) (pos := pos) (after := after) (t := t) (t' := t') (op := .add) hx hy rfl
  rwa [wrap_i64 h0 h1] at this
theorem Val.subI {t t' : TypeId} {a b : Int} (hx : ev E x = some (.int .i64 a)) (hy : ev E y = some (.int .i64 b)) (h0 : -9223372036854775808 ≤ a - b) (h1 : a - b ≤ 9223372036854775807) :
    Val P Γ E H ⟨dst, .binOp .sub t x y t', ty, pos, after, g⟩ (.int .i64 (a - b)) := by
  have := Val.bin (P := P) (Γ := Γ) (H := H) (dst := dst) (g := g) (ty := ty) (pos := pos) (after := after) (t := t) (t' := t') (op := .sub) hx hy rfl
  rwa [wrap_i64 h0 h1] at this
theorem Val.mulI {t t' : TypeId} {a b : Int} (hx : ev E x = some (.int .i64 a)) (hy : ev E y = some (.int .i64 b)) (h0 : -9223372036854775808 ≤ a * b) (h1 : a * b ≤ 9223372036854775807) :
    Val P Γ E H ⟨dst, .binOp .mul t x y t', ty, pos, after, g⟩ (.int .i64 (a * b)) := by
  have := Val.bin (P := P) (Γ := Γ) (H := H) (dst := dst) (g := g) (ty := ty) (pos := pos) (after := after) (t := t) (t' := t') (op := .mul) hx hy rfl
  rwa [wrap_i64 h0 h1] at this
theorem Val.quoI {t t' : TypeId} {a b : Int} (hx : ev E x = some (.int .i64 a)) (hy : ev E y = some (.int .i64 b)) (ha : 0 ≤ a) (ha' : a ≤ 9223372036854775807) (hb : 0 < b) :
    Val P Γ E H ⟨dst, .binOp .quo t x y t', ty, pos, after, g⟩ (.int .i64 (a / b)) := by
  have := Val.quo (P := P) (Γ := Γ) (H := H) (dst := dst) (g := g) (ty := ty) (pos := pos) (after := after) (t := t) (t' := t') hx hy (by omega)
  have h1 : 0 ≤ a / b := Int.ediv_nonneg ha (by omega)
  have h2 : a / b ≤ a := Int.ediv_le_self b ha
  rwa [Int.tdiv_eq_ediv_of_nonneg ha, wrap_i64 (by omega) (by omega)] at this
theorem Val.remI {t t' : TypeId} {k : IntKind} {a b : Int} (hx : ev E x = some (.int k a)) (hy : ev E y = some (.int k b)) (ha : 0 ≤ a) (hb : 0 < b) :
    Val P Γ E H ⟨dst, .binOp .rem t x y t', ty, pos, after, g⟩ (.int k (a % b)) := by
  have := Val.rem (P := P) (Γ := Γ) (H := H) (dst := dst) (g := g) (ty := ty) (pos := pos) (after := after) (t := t) (t' := t') hx hy (by omega)
  rwa [Int.tmod_eq_emod_of_nonneg ha] at this
theorem Val.toI {s t : TypeId} {ds : TypeDesc} {k' : IntKind} {b : Int} (hs : P.underlying s = some ds) (ht : P.underlying t = some (.int .i64)) (hx : ev E x = some (.int k' b)) (h0 : -9223372036854775808 ≤ b) (h1 : b ≤ 9223372036854775807) :
    Val P Γ E H ⟨dst, .convert s t x, ty, pos, after, g⟩ (.int .i64 b) := by
  have := Val.conv (P := P) (Γ := Γ) (H := H) (dst := dst) (g := g) (ty := ty) (pos := pos) (after := after) hs ht hx
  rwa [wrap_i64 h0 h1] at this
theorem Val.toU {s t : TypeId} {ds : TypeDesc} {k' : IntKind} {b : Int} (hs : P.underlying s = some ds) (ht : P.underlying t = some (.int .u64)) (hx : ev E x = some (.int k' b)) (h0 : 0 ≤ b) (h1 : b < 18446744073709551616) :
    Val P Γ E H ⟨dst, .convert s t x, ty, pos, after, g⟩ (.int .u64 b) := by
  have := Val.conv (P := P) (Γ := Γ) (H := H) (dst := dst) (g := g) (ty := ty) (pos := pos) (after := after) hs ht hx
  rwa [wrap_u64 h0 h1] at this
theorem Val.toW {s t : TypeId} {ds : TypeDesc} {k' : IntKind} {b : Int} (hs : P.underlying s = some ds) (ht : P.underlying t = some (.int .u32)) (hx : ev E x = some (.int k' b)) (h0 : 0 ≤ b) (h1 : b < 4294967296) :
    Val P Γ E H ⟨dst, .convert s t x, ty, pos, after, g⟩ (.int .u32 b) := by
  have := Val.conv (P := P) (Γ := Γ) (H := H) (dst := dst) (g := g) (ty := ty) (pos := pos) (after := after) hs ht hx
  rwa [wrap_u32 h0 h1] at this

/-! ### lists that are read -/
/-- A slice that is read: n elements of sz cells each. -/
def Rd (w : World) (v : Value) (sz n : Nat) (xs : List Value) : Prop :=
  ∃ A c, v = .slice A n c ∧ Cells w A xs ∧ xs.length = n * sz ∧ n ≤ c ∧ (A = none → n = 0 ∧ c = 0) ∧ ∀ a, A = some a → a.spot = none
abbrev RdB (w : World) (v : Value) (l : List UInt8) : Prop := Rd w v 1 l.length (l.map bv)
theorem Rd.mod {w w' : World} {sz n : Nat} {xs : List Value} (h : Rd w v sz n xs) (hm : Mod (fun _ => False) w w') : Rd w' v sz n xs := by
  obtain ⟨A, c, h1, h2, h3⟩ := h
  exact ⟨A, c, h1, h2.mod hm, h3⟩
/-- The list stands in none of these blocks. -/
def Off (v : Value) (xs : List Value) (S : Nat → Prop) : Prop := xs ≠ [] → ∀ b o s n c, v = .slice (some ⟨b, o, s⟩) n c → ¬ S b
theorem Off.none (v : Value) (xs : List Value) : Off v xs (fun _ => False) := fun _ _ _ _ _ _ _ h => h
theorem Rd.keep {w0 : World} {S : Nat → Prop} {w : World} {sz n : Nat} {xs : List Value} (h : Rd w0 v sz n xs) (hw : Rep w0 S H w) (ho : Off v xs S) : Rd w v sz n xs := by
  obtain ⟨A, c, h1, h2, h3⟩ := h
  refine ⟨A, c, h1, fun j u hj => ?_, h3⟩
  obtain ⟨b, o, e, hc⟩ := h2 j u hj
  exact ⟨b, o, e, hw.oldCell hc (ho (fun h0 => by rw [h0] at hj; cases hj) b o _ n c (by rw [h1, e]))⟩
theorem Rd.nil (w : World) (sz : Nat) : Rd w (.slice none 0 0) sz 0 [] := ⟨none, 0, rfl, (fun j u h => by cases h), by simp, Nat.le_refl _, (fun _ => ⟨rfl, rfl⟩), (fun a h => by cases h)⟩
theorem row_rd {w : World} {e sz n : Nat} {xs : List Value} (h : w.ownsRow 0 e sz v n xs) (hsz : 0 < sz) : Rd w v sz n xs := by
  have hl : xs.length = n * sz := h.1
  rcases h.2 with ⟨rfl, rfl⟩ | ⟨b, cap, cur, rfl, h1⟩
  · have : xs = [] := List.eq_nil_of_length_eq_zero (by simpa using hl)
    subst this
    exact Rd.nil w sz
  · exact ⟨_, cap, rfl, row_cells h hsz, hl, by have := h1; omega, (fun h => by cases h), (fun a h => by cases h; rfl)⟩
theorem Rd.bytes {w : World} {l : List UInt8} (h : RdB w v l) : ∃ A c, v = .slice A l.length c ∧ Bytes w A l ∧ l.length ≤ c ∧ (A = none → l.length = 0 ∧ c = 0) ∧ (∀ a, A = some a → a.spot = none) := by
  obtain ⟨A, c, h1, h2, h3, h4⟩ := h
  refine ⟨A, c, h1, fun k q hk => ?_, h4⟩
  exact h2 k (bv q) (by rw [List.getElem?_map, hk]; rfl)
theorem Bytes.rd {w : World} {A : Option Addr} {l : List UInt8} {c : Nat} (h : Bytes w A l) (h1 : l.length ≤ c) (h2 : A = none → l.length = 0 ∧ c = 0) (h3 : ∀ a, A = some a → a.spot = none) : RdB w (.slice A l.length c) l :=
  ⟨A, c, rfl, h.cells, by simp, h1, h2, h3⟩
theorem Val.lenRd {t el sz n : Nat} {w : World} {xs : List Value} (h : Rd w v sz n xs) (hu : P.underlying t = some (.slice el)) (hx : ev E x = some v) :
    Val P Γ E H ⟨dst, .call { callee := .builtin .len, args := #[x], argTypes := #[t] }, ty, pos, after, g⟩ (.int .i64 n) := by
  obtain ⟨A, c, rfl, _⟩ := h
  exact Val.len (bt := #[]) hu hx
theorem Rd.at {w : World} {sz n : Nat} {xs : List Value} {j : Nat} (h : Rd w v sz n xs) (hj : j < n) :
    ∃ b o c, v = .slice (some ⟨b, o, none⟩) n c ∧ ∀ i q, xs[j * sz + i]? = some q → w.cell? ⟨b, o + j * sz + i, none⟩ = some q := by
  obtain ⟨A, c, rfl, h2, h3, h4, h5, h6⟩ := h
  cases A with
  | none => have := (h5 rfl).1; omega
  | some a =>
    obtain ⟨b, o, s⟩ := a
    have : s = none := h6 _ rfl
    subst this
    refine ⟨b, o, c, rfl, fun i q hq => ?_⟩
    obtain ⟨b', o', e, hc⟩ := h2 _ _ hq
    simp only [Option.some.injEq, Addr.mk.injEq] at e
    obtain ⟨rfl, rfl, _⟩ := e
    rw [Nat.add_assoc]; exact hc
/-- An element's place. -/
theorem At.idxRd {t el sz n : Nat} {xs : List Value} {k : IntKind} {j : Int} (h : Rd Γ.w0 v sz n xs) (hu : P.underlying t = some (.slice el)) (hs : ∀ w, (sizeOf el).run P w = .ok sz w) (hx : ev E x = some v) (hy : ev E y = some (.int k j)) (h0 : 0 ≤ j) (h1 : j < n)
    (hg : g = none) (hn : Nat.blt d Γ.n = true)
    (c : ∀ b o, (∀ i q, xs[j.toNat * sz + i]? = some q → Γ.w0.cell? ⟨b, o + i, none⟩ = some q) → At Γ ((d, .pointer (some ⟨b, o, none⟩)) :: E) H (wpList P ops Q rest)) :
    At Γ E H (wpList P ops Q ({ dst := some d, op := .indexAddr t x y, type := ty, pos, after, guard := g } :: rest)) := by
  obtain ⟨b, o, cap, rfl, hc⟩ := h.at (j := j.toNat) (by omega)
  exact At.val (Val.indexSl _ rfl hu hs hx hy h0 h1) hg rfl hn (c b _ hc)
theorem QAt.idxRd {t el sz n : Nat} {xs : List Value} {k : IntKind} {j : Int} (h : Rd Γ.w0 v sz n xs) (hu : P.underlying t = some (.slice el)) (hs : ∀ w, (sizeOf el).run P w = .ok sz w) (hx : ev E x = some v) (hy : ev E y = some (.int k j)) (h0 : 0 ≤ j) (h1 : j < n)
    (hg : g = none) (hn : Nat.blt d Γ.n = true)
    (c : ∀ b o, (∀ i q, xs[j.toNat * sz + i]? = some q → Γ.w0.cell? ⟨b, o + i, none⟩ = some q) → QAt P Γ ops ((d, .pointer (some ⟨b, o, none⟩)) :: E) H rest ψ) :
    QAt P Γ ops E H ({ dst := some d, op := .indexAddr t x y, type := ty, pos, after, guard := g } :: rest) ψ := by
  obtain ⟨b, o, cap, rfl, hc⟩ := h.at (j := j.toNat) (by omega)
  exact QAt.val (Val.indexSl _ rfl hu hs hx hy h0 h1) hg rfl hn (c b _ hc)
/-- A byte's place. -/
theorem At.idxB {t el : Nat} {l : List UInt8} {k : IntKind} {j : Int} (h : RdB Γ.w0 v l) (hu : P.underlying t = some (.slice el)) (hs : ∀ w, (sizeOf el).run P w = .ok 1 w) (hx : ev E x = some v) (hy : ev E y = some (.int k j)) (h0 : 0 ≤ j) (h1 : j < l.length)
    (hg : g = none) (hn : Nat.blt d Γ.n = true)
    (c : ∀ b o q, l[j.toNat]? = some q → q.toNat < 256 → Γ.w0.cell? ⟨b, o, none⟩ = some (bv q) → At Γ ((d, .pointer (some ⟨b, o, none⟩)) :: E) H (wpList P ops Q rest)) :
    At Γ E H (wpList P ops Q ({ dst := some d, op := .indexAddr t x y, type := ty, pos, after, guard := g } :: rest)) :=
  At.idxRd h hu hs hx hy h0 h1 hg hn fun b o hc => by
    have hq : l[j.toNat]? = some (l[j.toNat]'(by omega)) := List.getElem?_eq_getElem _
    exact c b o _ hq (UInt8.toNat_lt _) (hc 0 _ (by rw [Nat.mul_one, Nat.add_zero, List.getElem?_map, hq]; rfl))
theorem QAt.idxB {t el : Nat} {l : List UInt8} {k : IntKind} {j : Int} (h : RdB Γ.w0 v l) (hu : P.underlying t = some (.slice el)) (hs : ∀ w, (sizeOf el).run P w = .ok 1 w) (hx : ev E x = some v) (hy : ev E y = some (.int k j)) (h0 : 0 ≤ j) (h1 : j < l.length)
    (hg : g = none) (hn : Nat.blt d Γ.n = true)
    (c : ∀ b o q, l[j.toNat]? = some q → q.toNat < 256 → Γ.w0.cell? ⟨b, o, none⟩ = some (bv q) → QAt P Γ ops ((d, .pointer (some ⟨b, o, none⟩)) :: E) H rest ψ) :
    QAt P Γ ops E H ({ dst := some d, op := .indexAddr t x y, type := ty, pos, after, guard := g } :: rest) ψ :=
  QAt.idxRd h hu hs hx hy h0 h1 hg hn fun b o hc => by
    have hq : l[j.toNat]? = some (l[j.toNat]'(by omega)) := List.getElem?_eq_getElem _
    exact c b o _ hq (UInt8.toNat_lt _) (hc 0 _ (by rw [Nat.mul_one, Nat.add_zero, List.getElem?_map, hq]; rfl))
def cutA : Option Addr → Nat → Nat → Nat → Option Addr
  | some ⟨b, o, s⟩, c, l, sz => some ⟨b, if c = l then o else o + l * sz, s⟩
  | none, _, _, _ => none
/-- A byte's place in a row. -/
theorem At.idxRowB {i t el e : Nat} {l : List UInt8} {k : IntKind} {j : Int} (hi : H[i]? = some (rowR v e 1 l.length (l.map bv))) (hu : P.underlying t = some (.slice el)) (hs : ∀ w, (sizeOf el).run P w = .ok 1 w) (hx : ev E x = some v) (hy : ev E y = some (.int k j)) (h0 : 0 ≤ j) (h1 : j < l.length)
    (hg : g = none) (hn : Nat.blt d Γ.n = true)
    (c : ∀ q, l[j.toNat]? = some q → q.toNat < 256 → At Γ ((d, .pointer (some ⟨rowB v, j.toNat, none⟩)) :: E) H (wpList P ops Q rest)) :
    At Γ E H (wpList P ops Q ({ dst := some d, op := .indexAddr t x y, type := ty, pos, after, guard := g } :: rest)) :=
  At.val (Val.indexRow (i := i) _ (by omega) hu hs hx hy hi h0 h1) hg rfl hn (c _ (List.getElem?_eq_getElem (by omega)) (UInt8.toNat_lt _))
theorem QAt.idxRowB {i t el e : Nat} {l : List UInt8} {k : IntKind} {j : Int} (hi : H[i]? = some (rowR v e 1 l.length (l.map bv))) (hu : P.underlying t = some (.slice el)) (hs : ∀ w, (sizeOf el).run P w = .ok 1 w) (hx : ev E x = some v) (hy : ev E y = some (.int k j)) (h0 : 0 ≤ j) (h1 : j < l.length)
    (hg : g = none) (hn : Nat.blt d Γ.n = true)
    (c : ∀ q, l[j.toNat]? = some q → q.toNat < 256 → QAt P Γ ops ((d, .pointer (some ⟨rowB v, j.toNat, none⟩)) :: E) H rest ψ) :
    QAt P Γ ops E H ({ dst := some d, op := .indexAddr t x y, type := ty, pos, after, guard := g } :: rest) ψ :=
  QAt.val (Val.indexRow (i := i) _ (by omega) hu hs hx hy hi h0 h1) hg rfl hn (c _ (List.getElem?_eq_getElem (by omega)) (UInt8.toNat_lt _))
theorem Val.loadRowB {i t e q : Nat} {l : List UInt8} {c : UInt8} (hA : ∀ w, (isAgg t).run P w = .ok false w) (hx : ev E x = some (.pointer (some ⟨rowB v, q, none⟩))) (hi : H[i]? = some (rowR v e 1 l.length (l.map bv))) (hv : l[q]? = some c) :
    Val P Γ E H ⟨dst, .load t x, ty, pos, after, g⟩ (bv c) := Val.loadRow hA hx hi (by rw [List.getElem?_map, hv]; rfl)
theorem brow_set (e : Nat) (v : Value) (l : List UInt8) (j : Nat) (c : UInt8) : rowR v e 1 l.length ((l.map bv).set j (bv c)) = brow e v (l.set j c) := by simp [brow, List.map_set]
/-- A part of a list. -/
theorem Rd.cut {w : World} {sz n l h : Nat} {A : Option Addr} {c : Nat} {xs : List Value} (hr : Rd w (.slice A n c) sz n xs) (h1 : l ≤ h) (h2 : h ≤ n) :
    Rd w (.slice (cutA A c l sz) (h - l) (c - l)) sz (h - l) ((xs.drop (l * sz)).take ((h - l) * sz)) := by
  obtain ⟨A', c', e, g2, g3, g4, g5, g6⟩ := hr
  simp only [Value.slice.injEq, true_and] at e
  obtain ⟨rfl, rfl⟩ := e
  have hle : h * sz ≤ n * sz := Nat.mul_le_mul_right _ h2
  have hs : (h - l) * sz = h * sz - l * sz := Nat.sub_mul ..
  have hl' : l * sz ≤ h * sz := Nat.mul_le_mul_right _ h1
  refine ⟨_, _, rfl, fun j u hj => ?_, by rw [List.length_take, List.length_drop, g3]; omega, by omega, fun h0 => ?_, fun a ha => ?_⟩
  · rw [List.getElem?_take] at hj
    split at hj
    · rename_i hlt
      rw [List.getElem?_drop] at hj
      obtain ⟨b, o, rfl, hc⟩ := g2 _ _ hj
      refine ⟨b, _, rfl, ?_⟩
      by_cases hcl : c = l
      · exfalso
        have : h - l = 0 := by omega
        rw [this] at hlt; simp at hlt
      · rw [if_neg hcl, Nat.add_assoc]; exact hc
    · cases hj
  · cases A with
    | none => have := g5 rfl; omega
    | some a => cases h0
  · cases A with
    | none => cases ha
    | some a' =>
      obtain ⟨b, o, s⟩ := a'
      have := g6 _ rfl
      have ha' := Option.some.inj ha
      subst ha'; exact this
theorem RdB.cut {w : World} {l h : Nat} {A : Option Addr} {c : Nat} {bs : List UInt8} (hr : RdB w (.slice A bs.length c) bs) (h1 : l ≤ h) (h2 : h ≤ bs.length) :
    RdB w (.slice (cutA A c l 1) (h - l) (c - l)) ((bs.drop l).take (h - l)) := by
  have := Rd.cut hr h1 h2
  simp only [Nat.mul_one, ← List.map_drop, ← List.map_take] at this
  have e : ((bs.drop l).take (h - l)).length = h - l := by rw [List.length_take, List.length_drop]; omega
  unfold RdB
  rw [e]
  exact this
theorem run_cutNil {t el n : Nat} {a : Act} {nn : Nat} {D : List Deferred} (ha : Agrees nn D E a) {lo hi : Option Operand} {l h : Nat} (hu : P.underlying t = some (.slice el)) (hs : ∀ w, (sizeOf el).run P w = .ok n w) (hx : ev E x = some (.slice none 0 0)) (hl : Bd E lo 0 l) (hh : Bd E hi 0 h) (h1 : l ≤ h) (h2 : h ≤ 0) (w : World) :
    (execOp a.eval ⟨dst, .slice t x lo hi .none, ty, pos, after, g⟩).run P w = .ok (.value (.slice none (h - l) (0 - l))) w := by
  have hr := run_sliceBounds (P := P) ha (is := true) hl hh h1 h2 w
  simp only [execOp, ha.eval hx, Sem.run_bind, Instr.sliceAt, run_underlying hu, Result.andThen_ok, Instr.slice, Sem.run_pure, Option.map_none, hr, hs]
  first | (split <;> simp) | simp
theorem Val.cutRd {t el n c l h sz : Nat} {A : Option Addr} {xs : List Value} {w : World} {lo hi : Option Operand} (hr : Rd w (.slice A n c) sz n xs) (hu : P.underlying t = some (.slice el)) (hs : ∀ w, (sizeOf el).run P w = .ok sz w)
    (hx : ev E x = some (.slice A n c)) (hl : Bd E lo 0 l) (hh : Bd E hi n h) (h1 : l ≤ h) (h2 : h ≤ n) :
    Val P Γ E H ⟨dst, .slice t x lo hi .none, ty, pos, after, g⟩ (.slice (cutA A c l sz) (h - l) (c - l)) := by
  obtain ⟨A', c', e, g2, g3, g4, g5, g6⟩ := hr
  simp only [Value.slice.injEq, true_and] at e
  obtain ⟨rfl, rfl⟩ := e
  cases A with
  | none =>
    obtain ⟨rfl, rfl⟩ := g5 rfl
    exact fun a w ha _ => run_cutNil ha hu hs hx hl hh h1 h2 w
  | some a =>
    obtain ⟨b, o, s⟩ := a
    have : s = none := g6 _ rfl
    subst this
    exact Val.cutSl l h _ _ _ hu hs hx hl hh h1 (by omega) rfl rfl rfl
/-- .. that is read on. -/
theorem At.cutB {t el : Nat} {bs : List UInt8} {lo hi : Option Operand} (l h : Nat) (hr : RdB Γ.w0 v bs) (hu : P.underlying t = some (.slice el)) (hs : ∀ w, (sizeOf el).run P w = .ok 1 w) (hx : ev E x = some v) (hl : Bd E lo 0 l) (hh : Bd E hi bs.length h) (h1 : l ≤ h) (h2 : h ≤ bs.length)
    (hg : g = none) (hn : Nat.blt d Γ.n = true) (k : ∀ v', RdB Γ.w0 v' ((bs.drop l).take (h - l)) → At Γ ((d, v') :: E) H (wpList P ops Q rest)) :
    At Γ E H (wpList P ops Q ({ dst := some d, op := .slice t x lo hi .none, type := ty, pos, after, guard := g } :: rest)) := by
  have hr0 := hr
  obtain ⟨A, c, rfl, _⟩ := hr
  exact At.val (Val.cutRd hr0 hu hs hx hl hh h1 h2) hg rfl hn (k _ (RdB.cut hr0 h1 h2))
theorem QAt.cutB {t el : Nat} {bs : List UInt8} {lo hi : Option Operand} (l h : Nat) (hr : RdB Γ.w0 v bs) (hu : P.underlying t = some (.slice el)) (hs : ∀ w, (sizeOf el).run P w = .ok 1 w) (hx : ev E x = some v) (hl : Bd E lo 0 l) (hh : Bd E hi bs.length h) (h1 : l ≤ h) (h2 : h ≤ bs.length)
    (hg : g = none) (hn : Nat.blt d Γ.n = true) (k : ∀ v', RdB Γ.w0 v' ((bs.drop l).take (h - l)) → QAt P Γ ops ((d, v') :: E) H rest ψ) :
    QAt P Γ ops E H ({ dst := some d, op := .slice t x lo hi .none, type := ty, pos, after, guard := g } :: rest) ψ := by
  have hr0 := hr
  obtain ⟨A, c, rfl, _⟩ := hr
  exact QAt.val (Val.cutRd hr0 hu hs hx hl hh h1 h2) hg rfl hn (k _ (RdB.cut hr0 h1 h2))
/-- The array that a list's first bytes are. -/
theorem At.arrB {t el n : Nat} {bs : List UInt8} (hr : RdB Γ.w0 v bs) (hu : P.underlying t = some (.array n el)) (hx : ev E x = some v) (h1 : n ≤ bs.length) (h0 : 0 < n) (hg : g = none) (hn : Nat.blt d Γ.n = true)
    (k : ∀ b o, (∀ j u, ((bs.take n).map bv)[j]? = some u → Γ.w0.cell? ⟨b, o + j, none⟩ = some u) → At Γ ((d, .pointer (some ⟨b, o, none⟩)) :: E) H (wpList P ops Q rest)) :
    At Γ E H (wpList P ops Q ({ dst := some d, op := .sliceToArrayPointer t x, type := ty, pos, after, guard := g } :: rest)) := by
  obtain ⟨b, o, c, rfl, hc⟩ := hr.at (j := 0) (by omega)
  refine At.val (v := .pointer (some ⟨b, o, none⟩)) (fun a w ha _ => ?_) hg rfl hn (k b o fun j u hj => ?_)
  · simp [execOp, ha.eval hx, Instr.arrayAt, Sem.run_bind, run_underlying hu, show ¬ bs.length < n by omega]
  · have := hc j u (by
      rw [List.map_take, List.getElem?_take] at hj
      split at hj
      · simpa using hj
      · cases hj)
    simpa using this
end
end Go.Wk
