/- Parts of the proof, joined: see the law's text. -/
import Derived.Test.YthhkbbodhghmcaaGreatDoorY1
import Derived.ChangeSlices
import Derived.Laws.MakeOwn
import Derived.Laws.OwnMore
import Derived.OrdersHeld
set_option linter.unusedVariables false
set_option linter.unusedSimpArgs false
namespace Go.Wk
open Go Go.ChangeShapes Go.WideShapes Go.ChangeAt Go.RowKit
section
variable {H : Type} {enc : TypeId × Value → H} {P : Program} {W : World} {r : Reach} {base b0 : Nat} {sp : Nat → Bool} {held : Bool}
theorem arg_slice {t e : TypeId} {v : Value} (hu : P.underlying t = some (.slice e)) (h : Value.okWide P W r base t v) : v = .slice none 0 0 ∨ ∃ b o n c, v = .slice (some ⟨b, o, none⟩) n c ∧ n ≤ c := by
  unfold Value.okWide at h
  rw [hu] at h
  unfold Cell.okWide at h
  rw [hu] at h
  unfold Cell.ok at h
  rw [hu] at h
  cases v <;> simp at h
  rename_i A n c
  cases A with
  | none =>
    left
    cases n <;> cases c <;> simp at h ⊢
  | some a =>
    right
    obtain ⟨h1, _, h2⟩ := h
    obtain ⟨b, o, s⟩ := a
    have : s = none := h2.2.1
    subst this
    exact ⟨b, o, n, c, rfl, h1⟩
theorem arg_byteslice {t e : TypeId} {v : Value} {d : DataW H} {ps : List MemPlace} (hu : P.underlying t = some (.slice e)) (he : P.underlying e = some (.int .u8)) (hc : P.cellsOf e = 1) (hby : P.bytesOf e = 1)
    (h : Value.okWide P W r base t v) (hd : DataW.Trod enc P W b0 sp held t v d ps) (hw : (DataW.weights P t d).all (· ≤ reachBytes) = true) :
    ∃ A c l, v = .slice A (l : List UInt8).length c ∧ Bytes W A l ∧ l.length ≤ c ∧ l.length ≤ 140737488351232 ∧ (A = none → l.length = 0 ∧ c = 0) ∧ (∀ a, A = some a → a.spot = none) := by
  obtain ⟨fuel, hf⟩ := hd
  rcases arg_slice hu h with rfl | ⟨b, o, n, c, rfl, hnc⟩
  · exact ⟨none, 0, [], rfl, Bytes.nil _ _, Nat.le_refl _, by decide, (fun _ => ⟨rfl, rfl⟩), (fun a ha => by cases ha)⟩
  · rcases open_ints hu he hc hf with ⟨h0, _⟩ | ⟨a, len, cap, zs, h0, _, hl, _, hz, hx, hcell, hwf⟩
    · simp [Value.cells] at h0
    · simp only [Value.cells, List.cons.injEq, Value.slice.injEq, Option.some.injEq, and_true] at h0
      obtain ⟨rfl, rfl, rfl⟩ := h0
      have hlen : n ≤ zs.length := by rw [hz]; split <;> omega
      simp only [Prod.mk.injEq] at hx
      have hdw : (zs.length) * 1 ≤ reachBytes := by
        have hall := List.all_eq_true.1 hw
        rw [hx.1] at hall
        unfold DataW.weights at hall
        rw [hu] at hall
        have := hall _ (List.mem_cons_self ..)
        simp only [decide_eq_true_eq, hby, lits, List.length_map] at this
        rw [← List.length_append, List.take_append_drop] at this
        exact this
      have hb : ∀ x ∈ zs, ∃ q : UInt8, x = (q.toNat : Int) := fun x hx => by
        have := hwf x hx
        exact hasU8 (by simpa [Lit.wf, IntKind.has] using this)
      refine ⟨some ⟨b, o, none⟩, c, (zs.take n).map (fun z => UInt8.ofNat z.toNat), ?_, ?_, ?_, ?_, (fun h => by cases h), (fun a ha => by cases ha; rfl)⟩
      · rw [List.length_map, List.length_take, Nat.min_eq_left hlen]
      · intro k u hk
        have hk' : k < n := by have := (List.getElem?_eq_some_iff.1 hk).1; simp at this; omega
        refine ⟨b, o, rfl, ?_⟩
        have h1 := hcell k (by omega)
        rw [Addr.add_off] at h1
        rw [h1]
        have hkz : k < zs.length := by omega
        rw [List.getElem?_map, List.getElem?_take, if_pos hk', List.getElem?_eq_getElem hkz] at hk
        have hu' : UInt8.ofNat zs[k].toNat = u := by simpa using hk
        have hg : zs.getD k 0 = zs[k] := by simp [List.getD, hkz]
        obtain ⟨q, hq⟩ := hb zs[k] (List.getElem_mem hkz)
        rw [hg, ← hu', hq]
        simp
      · rw [List.length_map, List.length_take]; omega
      · rw [List.length_map, List.length_take]; unfold reachBytes at hdw; omega
end
end Go.Wk
set_option linter.unusedVariables false
set_option linter.unusedSimpArgs false
namespace Go.Wk
open Go
def okc (c : UInt8) : Bool := !(c == 0) && !(c == 47)
def validB (s : ByteArray) : Bool := !(s.data.toList.isEmpty) && decide (s.size ≤ 28) && !(s.data.toList == [46]) && !(s.data.toList == [46, 46]) && s.data.toList.all okc
theorem size_len (s : ByteArray) : s.data.toList.length = s.size := Array.length_toList
end Go.Wk
set_option linter.unusedVariables false
set_option linter.unusedSimpArgs false
namespace Go.Wk
open Go
section
variable {P : Program} {Γ : Ctx} {E : Env} {H : List Res} {ops : Array Oper} {Q : Exit → Act → World → Prop} {rest : List Oper}
  {d : Nat} {dst : Option Tmp} {g : Option (Nat × Bool)} {ty : TypeId} {pos : String} {after : Array Edge} {x y z : Operand} {v u : Value} {ψ : Act → Prop}
theorem Val.addI {t t' : TypeId} {a b : Int} (hx : ev E x = some (.int .i64 a)) (hy : ev E y = some (.int .i64 b)) (h0 : -9223372036854775808 ≤ a + b) (h1 : a + b ≤ 9223372036854775807) :
    Val P Γ E H ⟨dst, .binOp .add t x y t', ty, pos, after, g⟩ (.int .i64 (a + b)) := by
  have := Val.bin (P := P) (Γ := Γ) (H := H) (dst := dst) (g := g) (ty := ty) (pos := pos) (after := after) (t := t) (t' := t') (op := .add) hx hy rfl
  rwa [wrap_i64 h0 h1] at this
theorem Val.subI {t t' : TypeId} {a b : Int} (hx : ev E x = some (.int .i64 a)) (hy : ev E y = some (.int .i64 b)) (h0 : -9223372036854775808 ≤ a - b) (h1 : a - b ≤ 9223372036854775807) :
    Val P Γ E H ⟨dst, .binOp .sub t x y t', ty, pos, after, g⟩ (.int .i64 (a - b)) := by
  have := Val.bin (P := P) (Γ := Γ) (H := H) (dst := dst) (g := g) (ty := ty) (pos := pos) (after := after) (t := t) (t' := t') (op := .sub) hx hy rfl
  rwa [wrap_i64 h0 h1] at this
theorem Val.mulI {t t' : TypeId} {a b : Int} (hx : ev E x = some (.int .i64 a)) (hy : ev E y = some (.int .i64 b)) (h0 : -9223372036854775808 ≤ a * b) (h1 : a * b ≤ 9223372036854775807) :
    Val P Γ E H ⟨dst, .binOp .mul t x y t', ty, pos, after, g⟩ (.int .i64 (a * b)) := by
  have := Val.bin (P := P) (Γ := Γ) (H := H) (dst := dst) (g := g) (ty := ty) (pos := pos) (after := after) (t := t) (t' := t') (op := .mul) hx hy rfl
  rwa [wrap_i64 h0 h1] at this
theorem Val.quoI {t t' : TypeId} {a b : Int} (hx : ev E x = some (.int .i64 a)) (hy : ev E y = some (.int .i64 b)) (ha : 0 ≤ a) (ha' : a ≤ 9223372036854775807) (hb : 0 < b) :
    Val P Γ E H ⟨dst, .binOp .quo t x y t', ty, pos, after, g⟩ (.int .i64 (a / b)) := by
  have := Val.quo (P := P) (Γ := Γ) (H := H) (dst := dst) (g := g) (ty := ty) (pos := pos) (after := after) (t := t) (t' := t') hx hy (by omega)
  have h1 : 0 ≤ a / b := Int.ediv_nonneg ha (by omega)
  have h2 : a / b ≤ a := Int.ediv_le_self b ha
  rwa [Int.tdiv_eq_ediv_of_nonneg ha, wrap_i64 (by omega) (by omega)] at this
theorem Val.remI {t t' : TypeId} {k : IntKind} {a b : Int} (hx : ev E x = some (.int k a)) (hy : ev E y = some (.int k b)) (ha : 0 ≤ a) (hb : 0 < b) :
    Val P Γ E H ⟨dst, .binOp .rem t x y t', ty, pos, after, g⟩ (.int k (a % b)) := by
  have := Val.rem (P := P) (Γ := Γ) (H := H) (dst := dst) (g := g) (ty := ty) (pos := pos) (after := after) (t := t) (t' := t') hx hy (by omega)
  rwa [Int.tmod_eq_emod_of_nonneg ha] at this
theorem Val.toI {s t : TypeId} {ds : TypeDesc} {k' : IntKind} {b : Int} (hs : P.underlying s = some ds) (ht : P.underlying t = some (.int .i64)) (hx : ev E x = some (.int k' b)) (h0 : -9223372036854775808 ≤ b) (h1 : b ≤ 9223372036854775807) :
    Val P Γ E H ⟨dst, .convert s t x, ty, pos, after, g⟩ (.int .i64 b) := by
  have := Val.conv (P := P) (Γ := Γ) (H := H) (dst := dst) (g := g) (ty := ty) (pos := pos) (after := after) hs ht hx
  rwa [wrap_i64 h0 h1] at this
theorem Val.toU {s t : TypeId} {ds : TypeDesc} {k' : IntKind} {b : Int} (hs : P.underlying s = some ds) (ht : P.underlying t = some (.int .u64)) (hx : ev E x = some (.int k' b)) (h0 : 0 ≤ b) (h1 : b < 18446744073709551616) :
    Val P Γ E H ⟨dst, .convert s t x, ty, pos, after, g⟩ (.int .u64 b) := by
  have := Val.conv (P := P) (Γ := Γ) (H := H) (dst := dst) (g := g) (ty := ty) (pos := pos) (after := after) hs ht hx
  rwa [wrap_u64 h0 h1] at this
theorem Val.toW {s t : TypeId} {ds : TypeDesc} {k' : IntKind} {b : Int} (hs : P.underlying s = some ds) (ht : P.underlying t = some (.int .u32)) (hx : ev E x = some (.int k' b)) (h0 : 0 ≤ b) (h1 : b < 4294967296) :
    Val P Γ E H ⟨dst, .convert s t x, ty, pos, after, g⟩ (.int .u32 b) := by
  have := Val.conv (P := P) (Γ := Γ) (H := H) (dst := dst) (g := g) (ty := ty) (pos := pos) (after := after) hs ht hx
  rwa [wrap_u32 h0 h1] at this
/-! ### lists that are read -/
/-- A slice that is read: n elements of sz cells each. -/
def Rd (w : World) (v : Value) (sz n : Nat) (xs : List Value) : Prop :=
  ∃ A c, v = .slice A n c ∧ Cells w A xs ∧ xs.length = n * sz ∧ n ≤ c ∧ (A = none → n = 0 ∧ c = 0) ∧ (0 < c → ∀ a, A = some a → a.spot = none)
abbrev RdB (w : World) (v : Value) (l : List UInt8) : Prop := Rd w v 1 l.length (l.map bv)
theorem Rd.mod {w w' : World} {sz n : Nat} {xs : List Value} (h : Rd w v sz n xs) (hm : Mod (fun _ => False) w w') : Rd w' v sz n xs := by
  obtain ⟨A, c, h1, h2, h3⟩ := h
  exact ⟨A, c, h1, h2.mod hm, h3⟩
/-- The list stands in none of these blocks. -/
def Off (v : Value) (xs : List Value) (S : Nat → Prop) : Prop := xs ≠ [] → ∀ b o s n c, v = .slice (some ⟨b, o, s⟩) n c → ¬ S b
theorem Off.none (v : Value) (xs : List Value) : Off v xs (fun _ => False) := fun _ _ _ _ _ _ _ h => h
theorem Rd.keep {w0 : World} {S : Nat → Prop} {w : World} {sz n : Nat} {xs : List Value} (h : Rd w0 v sz n xs) (hw : Rep w0 S H w) (ho : Off v xs S) : Rd w v sz n xs := by
  obtain ⟨A, c, h1, h2, h3⟩ := h
  refine ⟨A, c, h1, fun j u hj => ?_, h3⟩
  obtain ⟨b, o, e, hc⟩ := h2 j u hj
  exact ⟨b, o, e, hw.oldCell hc (ho (fun h0 => by rw [h0] at hj; cases hj) b o _ n c (by rw [h1, e]))⟩
theorem Rd.nil (w : World) (sz : Nat) : Rd w (.slice none 0 0) sz 0 [] := ⟨none, 0, rfl, (fun j u h => by cases h), by simp, Nat.le_refl _, (fun _ => ⟨rfl, rfl⟩), (fun _ a h => by cases h)⟩
theorem row_rd {w : World} {e sz n : Nat} {xs : List Value} (h : w.ownsRow 0 e sz v n xs) (hsz : 0 < sz) : Rd w v sz n xs := by
  have hl : xs.length = n * sz := h.1
  rcases h.2 with ⟨rfl, rfl⟩ | ⟨b, cap, cur, rfl, h1⟩
  · have : xs = [] := List.eq_nil_of_length_eq_zero (by simpa using hl)
    subst this
    exact Rd.nil w sz
  · exact ⟨_, cap, rfl, row_cells h hsz, hl, by have := h1; omega, (fun h => by cases h), (fun _ a h => by cases h; rfl)⟩
theorem Rd.bytes {w : World} {l : List UInt8} (h : RdB w v l) : ∃ A c, v = .slice A l.length c ∧ Bytes w A l ∧ l.length ≤ c ∧ (A = none → l.length = 0 ∧ c = 0) ∧ (0 < c → ∀ a, A = some a → a.spot = none) := by
  obtain ⟨A, c, h1, h2, h3, h4⟩ := h
  refine ⟨A, c, h1, fun k q hk => ?_, h4⟩
  exact h2 k (bv q) (by rw [List.getElem?_map, hk]; rfl)
theorem Bytes.rd {w : World} {A : Option Addr} {l : List UInt8} {c : Nat} (h : Bytes w A l) (h1 : l.length ≤ c) (h2 : A = none → l.length = 0 ∧ c = 0) (h3 : ∀ a, A = some a → a.spot = none) : RdB w (.slice A l.length c) l :=
  ⟨A, c, rfl, h.cells, by simp, h1, h2, fun _ => h3⟩
theorem Val.lenRd {t el sz n : Nat} {w : World} {xs : List Value} (h : Rd w v sz n xs) (hu : P.underlying t = some (.slice el)) (hx : ev E x = some v) :
    Val P Γ E H ⟨dst, .call { callee := .builtin .len, args := #[x], argTypes := #[t] }, ty, pos, after, g⟩ (.int .i64 n) := by
  obtain ⟨A, c, rfl, _⟩ := h
  exact Val.len (bt := #[]) hu hx
theorem Rd.at {w : World} {sz n : Nat} {xs : List Value} {j : Nat} (h : Rd w v sz n xs) (hj : j < n) :
    ∃ b o c, v = .slice (some ⟨b, o, none⟩) n c ∧ ∀ i q, xs[j * sz + i]? = some q → w.cell? ⟨b, o + j * sz + i, none⟩ = some q := by
  obtain ⟨A, c, rfl, h2, h3, h4, h5, h6⟩ := h
  cases A with
  | none => have := (h5 rfl).1; omega
  | some a =>
    obtain ⟨b, o, s⟩ := a
    have : s = none := h6 (by omega) _ rfl
    subst this
    refine ⟨b, o, c, rfl, fun i q hq => ?_⟩
    obtain ⟨b', o', e, hc⟩ := h2 _ _ hq
    simp only [Option.some.injEq, Addr.mk.injEq] at e
    obtain ⟨rfl, rfl, _⟩ := e
    rw [Nat.add_assoc]; exact hc
/-- An element's place. -/
theorem At.idxRd {t el sz n : Nat} {xs : List Value} {k : IntKind} {j : Int} (h : Rd Γ.w0 v sz n xs) (hu : P.underlying t = some (.slice el)) (hs : ∀ w, (sizeOf el).run P w = .ok sz w) (hx : ev E x = some v) (hy : ev E y = some (.int k j)) (h0 : 0 ≤ j) (h1 : j < n)
    (hg : g = none) (hn : Nat.blt d Γ.n = true)
    (c : ∀ b o, (∀ i q, xs[j.toNat * sz + i]? = some q → Γ.w0.cell? ⟨b, o + i, none⟩ = some q) → At Γ ((d, .pointer (some ⟨b, o, none⟩)) :: E) H (wpList P ops Q rest)) :
    At Γ E H (wpList P ops Q ({ dst := some d, op := .indexAddr t x y, type := ty, pos, after, guard := g } :: rest)) := by
  obtain ⟨b, o, cap, rfl, hc⟩ := h.at (j := j.toNat) (by omega)
  exact At.val (Val.indexSl _ rfl hu hs hx hy h0 h1) hg rfl hn (c b _ hc)
theorem QAt.idxRd {t el sz n : Nat} {xs : List Value} {k : IntKind} {j : Int} (h : Rd Γ.w0 v sz n xs) (hu : P.underlying t = some (.slice el)) (hs : ∀ w, (sizeOf el).run P w = .ok sz w) (hx : ev E x = some v) (hy : ev E y = some (.int k j)) (h0 : 0 ≤ j) (h1 : j < n)
    (hg : g = none) (hn : Nat.blt d Γ.n = true)
    (c : ∀ b o, (∀ i q, xs[j.toNat * sz + i]? = some q → Γ.w0.cell? ⟨b, o + i, none⟩ = some q) → QAt P Γ ops ((d, .pointer (some ⟨b, o, none⟩)) :: E) H rest ψ) :
    QAt P Γ ops E H ({ dst := some d, op := .indexAddr t x y, type := ty, pos, after, guard := g } :: rest) ψ := by
  obtain ⟨b, o, cap, rfl, hc⟩ := h.at (j := j.toNat) (by omega)
  exact QAt.val (Val.indexSl _ rfl hu hs hx hy h0 h1) hg rfl hn (c b _ hc)
/-- A byte's place. -/
theorem At.idxB {t el : Nat} {l : List UInt8} {k : IntKind} {j : Int} (h : RdB Γ.w0 v l) (hu : P.underlying t = some (.slice el)) (hs : ∀ w, (sizeOf el).run P w = .ok 1 w) (hx : ev E x = some v) (hy : ev E y = some (.int k j)) (h0 : 0 ≤ j) (h1 : j < l.length)
    (hg : g = none) (hn : Nat.blt d Γ.n = true)
    (c : ∀ b o q, l[j.toNat]? = some q → q.toNat < 256 → Γ.w0.cell? ⟨b, o, none⟩ = some (bv q) → At Γ ((d, .pointer (some ⟨b, o, none⟩)) :: E) H (wpList P ops Q rest)) :
    At Γ E H (wpList P ops Q ({ dst := some d, op := .indexAddr t x y, type := ty, pos, after, guard := g } :: rest)) :=
  At.idxRd h hu hs hx hy h0 h1 hg hn fun b o hc => by
    have hq : l[j.toNat]? = some (l[j.toNat]'(by omega)) := List.getElem?_eq_getElem _
    exact c b o _ hq (UInt8.toNat_lt _) (hc 0 _ (by rw [Nat.mul_one, Nat.add_zero, List.getElem?_map, hq]; rfl))
theorem QAt.idxB {t el : Nat} {l : List UInt8} {k : IntKind} {j : Int} (h : RdB Γ.w0 v l) (hu : P.underlying t = some (.slice el)) (hs : ∀ w, (sizeOf el).run P w = .ok 1 w) (hx : ev E x = some v) (hy : ev E y = some (.int k j)) (h0 : 0 ≤ j) (h1 : j < l.length)
    (hg : g = none) (hn : Nat.blt d Γ.n = true)
    (c : ∀ b o q, l[j.toNat]? = some q → q.toNat < 256 → Γ.w0.cell? ⟨b, o, none⟩ = some (bv q) → QAt P Γ ops ((d, .pointer (some ⟨b, o, none⟩)) :: E) H rest ψ) :
    QAt P Γ ops E H ({ dst := some d, op := .indexAddr t x y, type := ty, pos, after, guard := g } :: rest) ψ :=
  QAt.idxRd h hu hs hx hy h0 h1 hg hn fun b o hc => by
    have hq : l[j.toNat]? = some (l[j.toNat]'(by omega)) := List.getElem?_eq_getElem _
    exact c b o _ hq (UInt8.toNat_lt _) (hc 0 _ (by rw [Nat.mul_one, Nat.add_zero, List.getElem?_map, hq]; rfl))
def cutA : Option Addr → Nat → Nat → Nat → Option Addr
  | some ⟨b, o, s⟩, c, l, sz => some ⟨b, if c = l then o else o + l * sz, s⟩
  | none, _, _, _ => none
/-- A byte's place in a row. -/
theorem At.idxRowB {i t el e : Nat} {l : List UInt8} {k : IntKind} {j : Int} (hi : H[i]? = some (rowR v e 1 l.length (l.map bv))) (hu : P.underlying t = some (.slice el)) (hs : ∀ w, (sizeOf el).run P w = .ok 1 w) (hx : ev E x = some v) (hy : ev E y = some (.int k j)) (h0 : 0 ≤ j) (h1 : j < l.length)
    (hg : g = none) (hn : Nat.blt d Γ.n = true)
    (c : ∀ q, l[j.toNat]? = some q → q.toNat < 256 → At Γ ((d, .pointer (some ⟨rowB v, j.toNat, none⟩)) :: E) H (wpList P ops Q rest)) :
    At Γ E H (wpList P ops Q ({ dst := some d, op := .indexAddr t x y, type := ty, pos, after, guard := g } :: rest)) :=
  At.val (Val.indexRow (i := i) _ (by omega) hu hs hx hy hi h0 h1) hg rfl hn (c _ (List.getElem?_eq_getElem (by omega)) (UInt8.toNat_lt _))
theorem QAt.idxRowB {i t el e : Nat} {l : List UInt8} {k : IntKind} {j : Int} (hi : H[i]? = some (rowR v e 1 l.length (l.map bv))) (hu : P.underlying t = some (.slice el)) (hs : ∀ w, (sizeOf el).run P w = .ok 1 w) (hx : ev E x = some v) (hy : ev E y = some (.int k j)) (h0 : 0 ≤ j) (h1 : j < l.length)
    (hg : g = none) (hn : Nat.blt d Γ.n = true)
    (c : ∀ q, l[j.toNat]? = some q → q.toNat < 256 → QAt P Γ ops ((d, .pointer (some ⟨rowB v, j.toNat, none⟩)) :: E) H rest ψ) :
    QAt P Γ ops E H ({ dst := some d, op := .indexAddr t x y, type := ty, pos, after, guard := g } :: rest) ψ :=
  QAt.val (Val.indexRow (i := i) _ (by omega) hu hs hx hy hi h0 h1) hg rfl hn (c _ (List.getElem?_eq_getElem (by omega)) (UInt8.toNat_lt _))
theorem Val.loadRowB {i t e q : Nat} {l : List UInt8} {c : UInt8} (hA : ∀ w, (isAgg t).run P w = .ok false w) (hx : ev E x = some (.pointer (some ⟨rowB v, q, none⟩))) (hi : H[i]? = some (rowR v e 1 l.length (l.map bv))) (hv : l[q]? = some c) :
    Val P Γ E H ⟨dst, .load t x, ty, pos, after, g⟩ (bv c) := Val.loadRow hA hx hi (by rw [List.getElem?_map, hv]; rfl)
theorem brow_set (e : Nat) (v : Value) (l : List UInt8) (j : Nat) (c : UInt8) : rowR v e 1 l.length ((l.map bv).set j (bv c)) = brow e v (l.set j c) := by simp [brow, List.map_set]
/-- A part of a list. -/
theorem Rd.cut {w : World} {sz n l h : Nat} {A : Option Addr} {c : Nat} {xs : List Value} (hr : Rd w (.slice A n c) sz n xs) (h1 : l ≤ h) (h2 : h ≤ n) :
    Rd w (.slice (cutA A c l sz) (h - l) (c - l)) sz (h - l) ((xs.drop (l * sz)).take ((h - l) * sz)) := by
  obtain ⟨A', c', e, g2, g3, g4, g5, g6⟩ := hr
  simp only [Value.slice.injEq, true_and] at e
  obtain ⟨rfl, rfl⟩ := e
  have hle : h * sz ≤ n * sz := Nat.mul_le_mul_right _ h2
  have hs : (h - l) * sz = h * sz - l * sz := Nat.sub_mul ..
  have hl' : l * sz ≤ h * sz := Nat.mul_le_mul_right _ h1
  refine ⟨_, _, rfl, fun j u hj => ?_, by rw [List.length_take, List.length_drop, g3]; omega, by omega, fun h0 => ?_, fun hc0 a ha => ?_⟩
  · rw [List.getElem?_take] at hj
    split at hj
    · rename_i hlt
      rw [List.getElem?_drop] at hj
      obtain ⟨b, o, rfl, hc⟩ := g2 _ _ hj
      refine ⟨b, _, rfl, ?_⟩
      by_cases hcl : c = l
      · exfalso
        have : h - l = 0 := by omega
        rw [this] at hlt; simp at hlt
      · rw [if_neg hcl, Nat.add_assoc]; exact hc
    · cases hj
  · cases A with
    | none => have := g5 rfl; omega
    | some a => cases h0
  · cases A with
    | none => cases ha
    | some a' =>
      obtain ⟨b, o, s⟩ := a'
      have := g6 (by omega) _ rfl
      have ha' := Option.some.inj ha
      subst ha'; exact this
theorem RdB.cut {w : World} {l h : Nat} {A : Option Addr} {c : Nat} {bs : List UInt8} (hr : RdB w (.slice A bs.length c) bs) (h1 : l ≤ h) (h2 : h ≤ bs.length) :
    RdB w (.slice (cutA A c l 1) (h - l) (c - l)) ((bs.drop l).take (h - l)) := by
  have := Rd.cut hr h1 h2
  simp only [Nat.mul_one, ← List.map_drop, ← List.map_take] at this
  have e : ((bs.drop l).take (h - l)).length = h - l := by rw [List.length_take, List.length_drop]; omega
  unfold RdB
  rw [e]
  exact this
theorem run_cutNil {t el n : Nat} {a : Act} {nn : Nat} {D : List Deferred} (ha : Agrees nn D E a) {lo hi : Option Operand} {l h : Nat} (hu : P.underlying t = some (.slice el)) (hs : ∀ w, (sizeOf el).run P w = .ok n w) (hx : ev E x = some (.slice none 0 0)) (hl : Bd E lo 0 l) (hh : Bd E hi 0 h) (h1 : l ≤ h) (h2 : h ≤ 0) (w : World) :
    (execOp a.eval ⟨dst, .slice t x lo hi .none, ty, pos, after, g⟩).run P w = .ok (.value (.slice none (h - l) (0 - l))) w := by
  have hr := run_sliceBounds (P := P) ha (is := true) hl hh h1 h2 w
  simp only [execOp, ha.eval hx, Sem.run_bind, Instr.sliceAt, run_underlying hu, Result.andThen_ok, Instr.slice, Sem.run_pure, Option.map_none, hr, hs]
  first | (split <;> simp) | simp
theorem Val.cutRd {t el n c l h sz : Nat} {A : Option Addr} {xs : List Value} {w : World} {lo hi : Option Operand} (hr : Rd w (.slice A n c) sz n xs) (hu : P.underlying t = some (.slice el)) (hs : ∀ w, (sizeOf el).run P w = .ok sz w)
    (hx : ev E x = some (.slice A n c)) (hl : Bd E lo 0 l) (hh : Bd E hi n h) (h1 : l ≤ h) (h2 : h ≤ n) :
    Val P Γ E H ⟨dst, .slice t x lo hi .none, ty, pos, after, g⟩ (.slice (cutA A c l sz) (h - l) (c - l)) := by
  obtain ⟨A', c', e, g2, g3, g4, g5, g6⟩ := hr
  simp only [Value.slice.injEq, true_and] at e
  obtain ⟨rfl, rfl⟩ := e
  cases A with
  | none =>
    obtain ⟨rfl, rfl⟩ := g5 rfl
    exact fun a w ha _ => run_cutNil ha hu hs hx hl hh h1 h2 w
  | some a =>
    obtain ⟨b, o, s⟩ := a
    rcases Nat.eq_zero_or_pos c with hc0 | hc0
    · subst hc0
      obtain rfl : h = 0 := by omega
      obtain rfl : l = 0 := by omega
      intro a w ha _
      have hr := run_sliceBounds (P := P) ha (is := true) hl hh h1 (Nat.le_refl 0) w
      simp only [execOp, ha.eval hx, Sem.run_bind, Instr.sliceAt, run_underlying hu, Result.andThen_ok, Instr.slice, Sem.run_pure, Option.map_none, hr, hs]
      rfl
    · have : s = none := g6 hc0 _ rfl
      subst this
      exact Val.cutSl l h _ _ _ hu hs hx hl hh h1 (by omega) rfl rfl rfl
/-- .. that is read on. -/
theorem At.cutB {t el : Nat} {bs : List UInt8} {lo hi : Option Operand} (l h : Nat) (hr : RdB Γ.w0 v bs) (hu : P.underlying t = some (.slice el)) (hs : ∀ w, (sizeOf el).run P w = .ok 1 w) (hx : ev E x = some v) (hl : Bd E lo 0 l) (hh : Bd E hi bs.length h) (h1 : l ≤ h) (h2 : h ≤ bs.length)
    (hg : g = none) (hn : Nat.blt d Γ.n = true) (k : ∀ v', RdB Γ.w0 v' ((bs.drop l).take (h - l)) → At Γ ((d, v') :: E) H (wpList P ops Q rest)) :
    At Γ E H (wpList P ops Q ({ dst := some d, op := .slice t x lo hi .none, type := ty, pos, after, guard := g } :: rest)) := by
  have hr0 := hr
  obtain ⟨A, c, rfl, _⟩ := hr
  exact At.val (Val.cutRd hr0 hu hs hx hl hh h1 h2) hg rfl hn (k _ (RdB.cut hr0 h1 h2))
theorem QAt.cutB {t el : Nat} {bs : List UInt8} {lo hi : Option Operand} (l h : Nat) (hr : RdB Γ.w0 v bs) (hu : P.underlying t = some (.slice el)) (hs : ∀ w, (sizeOf el).run P w = .ok 1 w) (hx : ev E x = some v) (hl : Bd E lo 0 l) (hh : Bd E hi bs.length h) (h1 : l ≤ h) (h2 : h ≤ bs.length)
    (hg : g = none) (hn : Nat.blt d Γ.n = true) (k : ∀ v', RdB Γ.w0 v' ((bs.drop l).take (h - l)) → QAt P Γ ops ((d, v') :: E) H rest ψ) :
    QAt P Γ ops E H ({ dst := some d, op := .slice t x lo hi .none, type := ty, pos, after, guard := g } :: rest) ψ := by
  have hr0 := hr
  obtain ⟨A, c, rfl, _⟩ := hr
  exact QAt.val (Val.cutRd hr0 hu hs hx hl hh h1 h2) hg rfl hn (k _ (RdB.cut hr0 h1 h2))
end
end Go.Wk
set_option linter.unusedVariables false
set_option linter.unusedSimpArgs false
namespace Go.Wk
open Go
section
variable {P : Program} {Γ : Ctx} {E : Env} {H : List Res} {ops : Array Oper} {Q : Exit → Act → World → Prop} {rest : List Oper}
  {d : Nat} {ty : TypeId} {pos : String} {after : Array Edge} {x y z : Operand} {v u vy : Value} {g : Option (Nat × Bool)}
theorem At.appendRd {i t e sz by_ n m : Nat} {ti : TypeInfo} {z : Value} {xs ys : List Value} (ht : P.underlying t = some (.slice e)) (hti : P.info? e = some ti) (hz : ti.zero = some z) (hsize : ti.size = sz) (hby : ti.bytes = by_) (hzs : z.cells.size = sz) (hsz : Nat.blt 0 sz = true)
    (hx : ev E x = some v) (hy : ev E y = some vy) (hi : H[i]? = some (rowR v e sz n xs)) (hr : Rd Γ.w0 vy sz m ys) (ho : Off vy ys Γ.S) (h1 : ∀ u ∈ ys, u.oneCell' = true) (h63 : (n + m) * by_ ≤ 140737488355328) (h64 : n + m ≤ 140737488355328) (hn : Nat.blt d Γ.n = true)
    (k : ∀ v', At Γ ((d, v') :: E) (H.set i (rowR v' e sz (n + m) (xs ++ ys))) (wpList P ops Q rest)) :
    At Γ E H (wpList P ops Q ({ dst := some d, op := .call { callee := .builtin .append, args := #[x, y], argTypes := #[t, t] }, type := ty, pos, after, guard := none } :: rest)) := by
  have hr0 := hr
  obtain ⟨A, c, rfl, g2, g3, g4, g5, g6⟩ := hr
  refine At.appendSl ht hti hz hsize hby hzs hsz hx hy hi g3 g4 g5 g6 (fun w hw => ?_) h1 h63 h64 hn k
  obtain ⟨A', c', e, q2, _⟩ := hr0.keep hw ho
  simp only [Value.slice.injEq, true_and] at e
  obtain ⟨rfl, rfl⟩ := e
  exact q2
theorem At.appendRow {i j t e e' sz by_ n m : Nat} {ti : TypeInfo} {z : Value} {xs ys : List Value} (ht : P.underlying t = some (.slice e)) (hti : P.info? e = some ti) (hz : ti.zero = some z) (hsize : ti.size = sz) (hby : ti.bytes = by_) (hzs : z.cells.size = sz) (hsz : Nat.blt 0 sz = true)
    (hx : ev E x = some v) (hy : ev E y = some vy) (hi : H[i]? = some (rowR v e sz n xs)) (hj : H[j]? = some (rowR vy e' sz m ys)) (h1 : ∀ u ∈ ys, u.oneCell' = true) (h63 : (n + m) * by_ ≤ 140737488355328) (h64 : n + m ≤ 140737488355328) (hn : Nat.blt d Γ.n = true)
    (k : ∀ v', At Γ ((d, v') :: E) (H.set i (rowR v' e sz (n + m) (xs ++ ys))) (wpList P ops Q rest)) :
    At Γ E H (wpList P ops Q ({ dst := some d, op := .call { callee := .builtin .append, args := #[x, y], argTypes := #[t, t] }, type := ty, pos, after, guard := none } :: rest)) := fun a w ha hw => by
  have hsz' : 0 < sz := by simpa [Nat.blt_eq] using hsz
  have hr := row_rd (hw.row hj) hsz'
  obtain ⟨A, c, rfl, g2, g3, g4, g5, g6⟩ := hr
  refine At.appendSl ht hti hz hsize hby hzs hsz hx hy hi g3 g4 g5 g6 (fun w hw => ?_) h1 h63 h64 hn k a w ha hw
  obtain ⟨A', c', e, q2, _⟩ := row_rd (hw.row hj) hsz'
  simp only [Value.slice.injEq, true_and] at e
  obtain ⟨rfl, rfl⟩ := e
  exact q2
theorem bv_one (l : List UInt8) : ∀ u ∈ l.map bv, u.oneCell' = true := fun u hu => by
  obtain ⟨c, _, rfl⟩ := List.mem_map.1 hu
  rfl
theorem At.appendRowB {i j t e e' by_ : Nat} {ti : TypeInfo} {z : Value} {l m : List UInt8} (ht : P.underlying t = some (.slice e)) (hti : P.info? e = some ti) (hz : ti.zero = some z) (hsize : ti.size = 1) (hby : ti.bytes = by_) (hzs : z.cells.size = 1)
    (hx : ev E x = some v) (hy : ev E y = some vy) (hi : H[i]? = some (rowR v e 1 l.length (l.map bv))) (hj : H[j]? = some (rowR vy e' 1 m.length (m.map bv))) (h63 : (l.length + m.length) * by_ ≤ 140737488355328) (h64 : l.length + m.length ≤ 140737488355328) (hn : Nat.blt d Γ.n = true)
    (k : ∀ v', At Γ ((d, v') :: E) (H.set i (brow e v' (l ++ m))) (wpList P ops Q rest)) :
    At Γ E H (wpList P ops Q ({ dst := some d, op := .call { callee := .builtin .append, args := #[x, y], argTypes := #[t, t] }, type := ty, pos, after, guard := none } :: rest)) :=
  At.appendRow ht hti hz hsize hby hzs rfl hx hy hi hj (bv_one m) h63 h64 hn fun v' => by
    have := k v'
    simpa only [brow, List.map_append, List.length_append] using this
/-- A nil slice is a row of no bytes. -/
theorem At.rowNilB (e : Nat) {φ : Act → World → Prop} (k : At Γ E (brow e (.slice none 0 0) [] :: H) φ) : At Γ E H φ := At.rowNil e 1 k
/-- One byte behind a row. -/
theorem At.appendB1 {i j t e by_ b U : Nat} {ti : TypeInfo} {z : Value} {l : List UInt8} {c : UInt8} (ht : P.underlying t = some (.slice e)) (hti : P.info? e = some ti) (hz : ti.zero = some z) (hsize : ti.size = 1) (hby : ti.bytes = by_) (hzs : z.cells.size = 1)
    (hx : ev E x = some v) (hy : ev E y = some (.slice (some ⟨b, 0, none⟩) 1 1)) (hi : H[i]? = some (rowR v e 1 l.length (l.map bv))) (hj : H[j]? = some (blk b U [bv c])) (h63 : (l.length + 1) * by_ ≤ 140737488355328) (h64 : l.length + 1 ≤ 140737488355328) (hn : Nat.blt d Γ.n = true)
    (k : ∀ v', At Γ ((d, v') :: E) (H.set i (brow e v' (l ++ [c]))) (wpList P ops Q rest)) :
    At Γ E H (wpList P ops Q ({ dst := some d, op := .call { callee := .builtin .append, args := #[x, y], argTypes := #[t, t] }, type := ty, pos, after, guard := none } :: rest)) :=
  At.append (i := i) (ys := [bv c]) ht hti hz hsize hby hzs rfl hx hy hi rfl (fun w hw j' u hj' => by rw [Nat.zero_add]; exact ((hw.blk hj).cell j').trans hj') (by simp [Value.oneCell']) h63 h64 hn fun v' => by
    have := k v'
    rw [← brow_snoc] at this
    exact this
end
end Go.Wk
set_option linter.unusedVariables false
set_option linter.unusedSimpArgs false
namespace Go.Wk
open Go
section
variable {P : Program} {ops : Array Oper} {Q : Exit → Act → World → Prop} {Mid : Act → World → Prop}
theorem Oper.wp_then {o : Oper} {a : Act} {w : World} {K K' : Act → World → Prop} (h : ∀ a w, K a w → K' a w) (hh : o.wp P a w K (Exit.then Mid Q)) : o.wp P a w K' Q := by
  unfold Oper.wp at *
  generalize (execOp a.eval o).run P w = r at *
  cases r with
  | ok n w' =>
    cases n <;> simp only [Oper.upon] at hh ⊢ <;>
      first
        | exact h _ _ hh
        | exact Calls.mono hh (fun e w'' he => by cases e <;> first | exact h _ _ he | exact he)
        | exact Rows.mono hh (fun _ _ he => h _ _ he)
  | halt x w' => cases x <;> simp only [Oper.upon] at hh ⊢ <;> exact hh
theorem wpList_cut {l2 : List Oper} (h2 : ∀ a w, Mid a w → wpList P ops Q l2 a w) : ∀ {l : List Oper} {a : Act} {w : World}, wpList P ops (Exit.then Mid Q) l a w → wpList P ops Q (l ++ l2) a w
  | [], a, w, h => h2 _ _ h
  | o :: l, a, w, h => by
    simp only [List.cons_append]
    unfold wpList at h ⊢
    by_cases hw : Region.wanted o (yielded ops a.tmps) = true
    · rw [if_pos hw] at h ⊢
      rcases h with h | ⟨h, h'⟩
      · exact .inl (Oper.wp_then (fun _ _ k => wpList_cut h2 k) h)
      · exact .inr ⟨h, h'⟩
    · rw [if_neg hw] at h ⊢
      exact wpList_cut h2 h
theorem wpQuiet_cut {C : World → Prop} {ψ ψ' : Act → Prop} {l2 : List Oper} (h2 : ∀ a, ψ' a → wpQuiet P ops C ψ l2 a) : ∀ {l : List Oper} {a : Act}, wpQuiet P ops C ψ' l a → wpQuiet P ops C ψ (l ++ l2) a
  | [], a, h => h2 _ h
  | o :: l, a, h => by
    simp only [List.cons_append]
    unfold wpQuiet at h ⊢
    by_cases hw : Region.wanted o (yielded ops a.tmps) = true
    · rw [if_pos hw] at h ⊢
      exact Go.Oper.quiet_mono (fun _ k => wpQuiet_cut h2 k) h
    · rw [if_neg hw] at h ⊢
      exact wpQuiet_cut h2 h
end
section
variable {P : Program} {Γ : Ctx} {E E' : Env} {H : List Res} {ops : Array Oper} {Q : Exit → Act → World → Prop} {rest l : List Oper}
  {d : Nat} {dst : Option Tmp} {ty : TypeId} {pos : String} {after : Array Edge} {x y z : Operand} {v u : Value} {g : Option (Nat × Bool)} {ψ : Act → Prop}
theorem QAt.weaken (E' : Env) (hE : Sub E E') (k : QAt P Γ ops E' H l ψ) : QAt P Γ ops E H l ψ := fun a ha => k a (ha.weaken hE)
/-- The ways through the next n operations meet: slot d holds b there. -/
def BoolMid (Γ : Ctx) (E : Env) (H : List Res) (d : Nat) (b : Bool) (a : Act) (w : World) : Prop := Agrees Γ.n Γ.D ((d, .bool b) :: E) a ∧ Rep Γ.w0 Γ.S H w
theorem At.boolMeet (n d : Nat) (b : Bool) (h1 : At Γ E H (wpList P ops (Exit.then (BoolMid Γ E H d b) Q) (l.take n))) (h2 : At Γ ((d, .bool b) :: E) H (wpList P ops Q (l.drop n))) : At Γ E H (wpList P ops Q l) := fun a w ha hw => by
  rw [← List.take_append_drop n l]
  exact wpList_cut (fun a w h => h2 a w h.1 h.2) (h1 a w ha hw)
theorem At.boolEnd {d : Nat} {b c : Bool} (hl : look E' d = some (.bool c)) (hc : c = b) (hE : Sub E' E) : At Γ E' H (Exit.then (BoolMid Γ E H d b) Q .normal) := fun a w ha hw => by
  subst hc
  exact ⟨ha.weaken (Sub.cons hl hE), hw⟩
theorem QAt.boolMeet (n d : Nat) (b : Bool) (h1 : QAt P Γ ops E H (l.take n) (fun a => Agrees Γ.n Γ.D ((d, .bool b) :: E) a)) (h2 : QAt P Γ ops ((d, .bool b) :: E) H (l.drop n) ψ) : QAt P Γ ops E H l ψ := fun a ha => by
  rw [← List.take_append_drop n l]
  exact wpQuiet_cut (fun a h => h2 a h) (h1 a ha)
theorem QAt.boolEnd {d : Nat} {b c : Bool} (hl : look E' d = some (.bool c)) (hc : c = b) (hE : Sub E' E) : QAt P Γ ops E' H [] (fun a => Agrees Γ.n Γ.D ((d, .bool b) :: E) a) := fun a ha => by
  subst hc
  exact wpQuiet_nil (ha.weaken (Sub.cons hl hE))
/-- A slice that is built out of values owns its row. -/
theorem At.buildRow {t e n : Nat} {parts : Array (Nat × Operand)} {vs : Array (Nat × Value)} {cs : List Value} (hp : ∀ a : Act, Agrees Γ.n Γ.D E a → (parts.map fun p => (p.1, a.eval p.2)) = vs)
    (hb : ∀ w, (Instr.buildSlice t n vs).run P w = .ok (.slice (some ⟨w.heap.size, 0, none⟩) n n) (w.alloc (.cells cs.toArray e))) (sz : Nat) (hl : cs.length = n * sz) (hm : n ≤ 140737488355328) (hn : Nat.blt d Γ.n = true)
    (k : ∀ v, At Γ ((d, v) :: E) (rowR v e sz n cs :: H) (wpList P ops Q rest)) :
    At Γ E H (wpList P ops Q ({ dst := some d, op := .buildSlice t n parts, type := ty, pos, after, guard := none } :: rest)) :=
  At.run rfl rfl hn fun a w ha hw => by
    refine ⟨_, _, _, ?_, hw.new (r' := rowR (.slice (some ⟨w.heap.size, 0, none⟩) n n) e sz n cs) (Mod.alloc w (.cells cs.toArray e)) ?_ (fun b hb => ?_), k _⟩
    · have := hp a ha
      simp only [execOp]
      rw [show (parts.map fun (x : Nat × Operand) => (x.1, a.eval x.2)) = vs from this]
      simp [Sem.run_bind, hb]
    · exact ⟨hl, .inr ⟨w.heap.size, n, cs.toArray, rfl, Nat.zero_le _, heap_alloc_new w _, Nat.le_refl _, by unfold maxLen; omega, by simpa using hl, by rw [← hl]; simp⟩⟩
    · simp only [rowR, Value.ownBlock, Option.some.injEq] at hb
      omega
theorem Val.toB {s t : TypeId} {ds : TypeDesc} {k' : IntKind} {b : Int} (hs : P.underlying s = some ds) (ht : P.underlying t = some (.int .u8)) (hx : ev E x = some (.int k' b)) (h0 : 0 ≤ b) :
    Val P Γ E H ⟨dst, .convert s t x, ty, pos, after, g⟩ (bv (UInt8.ofNat b.toNat)) := by
  have := Val.conv (P := P) (Γ := Γ) (H := H) (dst := dst) (g := g) (ty := ty) (pos := pos) (after := after) hs ht hx
  rwa [show b = ((b.toNat : Nat) : Int) by omega, wrap_u8_nat] at this
def vN (s : ByteArray) : Nat := if validB s then 1 else 0
theorem vN_T {s : ByteArray} : validB s = true ↔ vN s = 1 := by unfold vN; cases validB s <;> simp
theorem vN_F {s : ByteArray} : validB s = false ↔ vN s = 0 := by unfold vN; cases validB s <;> simp
theorem nmE_T {s : ByteArray} : (s.toList == (ByteArray.mk #[]).toList) = true ↔ s.size = 0 := by
  rw [ByteArray.toList_eq, ByteArray.toList_eq, ← size_len]
  show (s.data.toList == ([] : List UInt8)) = true ↔ s.data.toList.length = 0
  rw [beq_iff_eq, List.length_eq_zero_iff]
theorem nmE_F {s : ByteArray} : (s.toList == (ByteArray.mk #[]).toList) = false ↔ s.size ≠ 0 := by
  rw [← Bool.not_eq_true, nmE_T]
end
end Go.Wk
set_option linter.unusedVariables false
set_option linter.unusedSimpArgs false
namespace Go.Wk
open Go
section
variable {P : Program} {Γ : Ctx} {E E' : Env} {H : List Res} {ops : Array Oper} {Q : Exit → Act → World → Prop} {rest l : List Oper}
  {d : Nat} {dst : Option Tmp} {ty : TypeId} {pos : String} {after : Array Edge} {x y z : Operand} {v u : Value} {g : Option (Nat × Bool)} {ψ : Act → Prop}
theorem grown_none {w w' : World} (h : w.grownBy w' none) : Mod (fun _ => False) w w' := ⟨h.size, fun b hb _ => h.block b hb (fun e => by cases e), h.os, h.tape, h.output⟩
theorem own_block {w : World} {v : Value} {base e sz n : Nat} {xs : List Value} (h : w.ownsRow base e sz v n xs) : ∀ b, v.ownBlock = some b → base ≤ b := fun b hb => (h.lt b hb).1
theorem own_base {w : World} {v : Value} {base e sz n : Nat} {xs : List Value} (h : w.ownsRow base e sz v n xs) : w.ownsRow 0 e sz v n xs := by
  refine ⟨h.1, ?_⟩
  rcases h.2 with hn | ⟨g, cap, cur, h1, h2, rest⟩
  · exact .inl hn
  · exact .inr ⟨g, cap, cur, h1, Nat.zero_le _, rest⟩
theorem At.makeRow {t e sz n : Nat} {ti : TypeInfo} {zv : Value} {cs : List Value} (ht : P.underlying t = some (.slice e)) (hti : P.info? e = some ti) (hz : ti.zero = some zv) (hsize : ti.size = sz) (hcs : (madeCells zv.cells (n * sz)).toList = cs)
    (hx : ev E x = some (.int .i64 (n : Int))) (hy : ev E y = some (.int .i64 (n : Int))) (hbytes : ti.bytes * n ≤ 281474976710656) (h63 : n ≤ 140737488355328) (hn : Nat.blt d Γ.n = true)
    (k : ∀ v, At Γ ((d, v) :: E) (rowR v e sz n cs :: H) (wpList P ops Q rest)) :
    At Γ E H (wpList P ops Q ({ dst := some d, op := .makeSlice t x y, type := ty, pos, after, guard := none } :: rest)) :=
  At.run rfl rfl hn fun a w ha hw => by
    obtain ⟨w', hr, hown, hg⟩ := run_make_full (P := P) w w.heap.size t e ti zv sz ht hti hz hsize .i64 .i64 n hbytes (by unfold maxLen; omega) (Nat.le_refl _)
    refine ⟨_, w', _, by simp [execOp, ha.eval hx, ha.eval hy, Sem.run_bind, hr], hw.new (r' := rowR _ e sz n cs) (grown_none hg) (by subst hcs; exact own_base hown) (fun b hb => own_block hown b hb), k _⟩
theorem At.makeRow0 {t e sz c : Nat} {ti : TypeInfo} {zv : Value} (ht : P.underlying t = some (.slice e)) (hti : P.info? e = some ti) (hz : ti.zero = some zv) (hsize : ti.size = sz)
    (hx : ev E x = some (.int .i64 0)) (hy : ev E y = some (.int .i64 (c : Int))) (hbytes : ti.bytes * c ≤ 281474976710656) (h63 : c ≤ 140737488355328) (hn : Nat.blt d Γ.n = true)
    (k : ∀ v, At Γ ((d, v) :: E) (rowR v e sz 0 [] :: H) (wpList P ops Q rest)) :
    At Γ E H (wpList P ops Q ({ dst := some d, op := .makeSlice t x y, type := ty, pos, after, guard := none } :: rest)) :=
  At.run rfl rfl hn fun a w ha hw => by
    obtain ⟨w', hr, hown, hg⟩ := run_make_own (P := P) w w.heap.size t e ti zv sz ht hti hz hsize .i64 .i64 c hbytes (by unfold maxLen; omega) (Nat.le_refl _)
    refine ⟨_, w', _, by simp [execOp, ha.eval hx, ha.eval hy, Sem.run_bind, hr], hw.new (r' := rowR _ e sz 0 []) (grown_none hg) (own_base hown) (fun b hb => own_block hown b hb), k _⟩
theorem made_zs (n : Nat) : (madeCells #[Value.int .u8 0] (n * 1)).toList = (zs n).map bv := by
  rw [zs_bv, Nat.mul_one]
  apply List.ext_getElem
  · simp [madeCells]
  · intro i h1 h2
    simp [madeCells, Nat.mod_one]
theorem At.makeRowB {t e n : Nat} {ti : TypeInfo} (ht : P.underlying t = some (.slice e)) (hti : P.info? e = some ti) (hz : ti.zero = some (.int .u8 0)) (hsize : ti.size = 1) (hb : ti.bytes = 1)
    (hx : ev E x = some (.int .i64 (n : Int))) (hy : ev E y = some (.int .i64 (n : Int))) (h63 : n ≤ 140737488355328) (hn : Nat.blt d Γ.n = true)
    (k : ∀ v, At Γ ((d, v) :: E) (brow e v (zs n) :: H) (wpList P ops Q rest)) :
    At Γ E H (wpList P ops Q ({ dst := some d, op := .makeSlice t x y, type := ty, pos, after, guard := none } :: rest)) :=
  At.makeRow ht hti hz hsize (made_zs n) hx hy (by rw [hb]; omega) h63 hn fun v => by
    have := k v
    unfold brow at this
    rwa [zs_length] at this
theorem At.makeRow0B {t e c : Nat} {ti : TypeInfo} (ht : P.underlying t = some (.slice e)) (hti : P.info? e = some ti) (hz : ti.zero = some (.int .u8 0)) (hsize : ti.size = 1) (hb : ti.bytes = 1)
    (hx : ev E x = some (.int .i64 0)) (hy : ev E y = some (.int .i64 (c : Int))) (h63 : c ≤ 140737488355328) (hn : Nat.blt d Γ.n = true)
    (k : ∀ v, At Γ ((d, v) :: E) (brow e v [] :: H) (wpList P ops Q rest)) :
    At Γ E H (wpList P ops Q ({ dst := some d, op := .makeSlice t x y, type := ty, pos, after, guard := none } :: rest)) :=
  At.makeRow0 ht hti hz hsize hx hy (by rw [hb]; omega) h63 hn k
/-- A byte of a row is turned, or laid. -/
theorem At.storeRowB {i t e q : Nat} {l : List UInt8} {c : UInt8} (hs : ∀ w, (sizeOf t).run P w = .ok 1 w) (hx : ev E x = some (.pointer (some ⟨rowB v, q, none⟩))) (hy : ev E y = some (bv c)) (hi : H[i]? = some (rowR v e 1 l.length (l.map bv))) (hq : q < l.length)
    (k : At Γ E (H.set i (brow e v (l.set q c))) (wpList P ops Q rest)) : At Γ E H (wpList P ops Q ({ dst := .none, op := .store t x y, type := ty, pos, after, guard := none } :: rest)) :=
  At.storeRow hs hx hy rfl hi (by simpa using hq) (by rw [brow_set]; exact k)
end
end Go.Wk
set_option linter.unusedVariables false
set_option linter.unusedSimpArgs false
namespace Go.Wk
open Go
section
variable {P : Program} {Γ : Ctx} {E E' : Env} {H : List Res} {ops : Array Oper} {Q : Exit → Act → World → Prop} {rest : List Oper}
  {d : Nat} {ty : TypeId} {pos : String} {after : Array Edge}
end
end Go.Wk
set_option linter.unusedVariables false
set_option linter.unusedSimpArgs false
namespace Go
section
variable {P : Program} {ops : Array Oper} {Q : Exit → Act → World → Prop} {md : Region.Mode} {S : World → Prop} {t : Nat}
/-- Whatever order is picked from here on; S holds behind every operation ahead of number t that is carried out. -/
def wpAnyK (P : Program) (md : Region.Mode) (ops : Array Oper) (Q : Exit → Act → World → Prop) (S : World → Prop) (t : Nat) : Nat → Array Bool → Act → World → Prop
  | 0, listed, a, w => Region.ready md ops listed = [] ∧ Q .normal a w
  | fuel + 1, listed, a, w =>
    (Region.ready md ops listed = [] → Q .normal a w) ∧
    ∀ i ∈ Region.ready md ops listed, wpOp P ops Q i (fun a' w' => (i < t → S w') ∧ wpAnyK P md ops Q S t fuel (listed.setIfInBounds i true) a' w') a w
theorem wpAny_of_K : ∀ (fuel : Nat) (listed : Array Bool) (a : Act) (w : World), wpAnyK P md ops Q S t fuel listed a w → wpAny P md ops Q fuel listed a w
  | 0, _, _, _, h => h
  | fuel + 1, _, _, _, h => ⟨h.1, fun i hi => wpOp_mono (fun a' w' h' => wpAny_of_K fuel _ a' w' h'.2) (h.2 i hi)⟩
theorem wpAnyK_first {i : Nat} {oi : Oper} {v : Value} (hi : ops[i]? = some oi) (hsel : ∀ (j : Nat) (o : Oper) cs b, ops[j]? = some o → o.op ≠ .select cs b)
    (hQ : ∀ c a w, Q (.panic c) (a.put oi.dst v) w → Q (.panic c) a w) (htail : ∀ j oj, ops[j]? = some oj → t ≤ j → ∃ e ∈ oj.after, Region.binds md e = true ∧ e.on = i) :
    ∀ (fuel : Nat) (listed : Array Bool) (a : Act) (w : World),
      (∀ j oj, ops[j]? = some oj → j ≠ i → listed.getD j true = false → (∀ e ∈ oj.after, Region.binds md e = true → e.on ≠ i) → oi.apart ops oj = true) →
      i ∈ Region.ready md ops listed → i < t → YieldsIf P ops S oi v a → S w →
      wpAnyK P md ops Q S t fuel (listed.setIfInBounds i true) (a.put oi.dst v) w → wpAnyK P md ops Q S t (fuel + 1) listed a w := by
  intro fuel
  induction fuel with
  | zero =>
    intro listed a w _ hr hit hy hS H
    refine ⟨fun h => (by rw [h] at hr; cases hr), fun j hj => ?_⟩
    by_cases hji : j = i
    · subst hji; exact hy.wpOp hi hS ⟨fun _ => hS, H⟩
    · have := ready_mono hj hji
      rw [H.1] at this
      cases this
  | succ fuel ih =>
    intro listed a w hfree hr hit hy hS H
    refine ⟨fun h => (by rw [h] at hr; cases hr), fun j hj => ?_⟩
    by_cases hji : j = i
    · subst hji; exact hy.wpOp hi hS ⟨fun _ => hS, H⟩
    · have h1 := H.2 j (ready_mono hj hji)
      obtain ⟨hjun, oj, hoj, hall⟩ := mem_ready.1 hj
      have hnot : ∀ e ∈ oj.after, Region.binds md e = true → e.on ≠ i := fun e he hb heq => by
        have h1 := hall e he hb
        have h0 := (mem_ready.1 hr).1
        rw [heq] at h1
        rcases Nat.lt_or_ge i listed.size with h' | h'
        · simp [h'] at h0 h1; rw [h0] at h1; cases h1
        · simp [Array.getElem?_eq_none h'] at h1
      have hjt : j < t := Nat.lt_of_not_le fun hge => by
        obtain ⟨e, he, hb, heq⟩ := htail j oj hoj hge
        exact hnot e he hb heq
      have h2 := wpOp_putIf hoj (hfree j oj hoj hji hjun hnot) (fun cs b => hsel i oi cs b hi) (fun cs b => hsel j oj cs b hoj) hQ hy h1
      have hfree' : ∀ k ok, ops[k]? = some ok → k ≠ i → (listed.setIfInBounds j true).getD k true = false →
          (∀ e ∈ ok.after, Region.binds md e = true → e.on ≠ i) → oi.apart ops ok = true := fun k ok hk hki hun hno => by
        refine hfree k ok hk hki ?_ hno
        by_cases hjk : j = k
        · subst hjk; exact hjun
        · rw [getD_set_ne true hjk] at hun; exact hun
      refine wpOp_mono (fun a' w' h3 => ⟨fun _ => h3.2.1 hjt, ih (listed.setIfInBounds j true) a' w' hfree' (ready_mono hr (Ne.symm hji)) hit h3.1 (h3.2.1 hjt) ?_⟩) h2
      rw [Array.setIfInBounds_comm _ _ hji]
      exact h3.2.2
def tailB (md : Region.Mode) (ops : Array Oper) (t i : Nat) : Bool := (List.range (ops.size - t)).all fun k => match ops[t + k]? with | some o => o.after.any fun e => Region.binds md e && e.on == i | none => true
theorem tailB_spec {i : Nat} (h : tailB md ops t i = true) : ∀ j oj, ops[j]? = some oj → t ≤ j → ∃ e ∈ oj.after, Region.binds md e = true ∧ e.on = i := fun j oj hj htj => by
  have hlt : j < ops.size := by
    rcases Nat.lt_or_ge j ops.size with h' | h'
    · exact h'
    · rw [Array.getElem?_eq_none h'] at hj; cases hj
  have := List.all_eq_true.1 h (j - t) (List.mem_range.2 (by omega))
  rw [show t + (j - t) = j by omega, hj] at this
  simp only [Array.any_eq_true, Bool.and_eq_true, beq_iff_eq] at this
  obtain ⟨k, hk, h1, h2⟩ := this
  exact ⟨_, Array.getElem_mem hk, h1, h2⟩
end
namespace Wk
section
variable {P : Program} {Γ : Ctx} {E E' : Env} {H H' HS : List Res} {ops : Array Oper} {Q : Exit → Act → World → Prop} {t fuel : Nat} {listed : Array Bool} {d i : Nat} {v : Value} {o : Oper}
def NoPanic (Q : Exit → Act → World → Prop) : Exit → Act → World → Prop
  | .panic _, _, _ => False
  | e, a, w => Q e a w
def KAt (P : Program) (Γ : Ctx) (ops : Array Oper) (HS : List Res) (t fuel : Nat) (listed : Array Bool) (E : Env) (H : List Res) (Q : Exit → Act → World → Prop) : Prop :=
  ∀ a w, Agrees Γ.n Γ.D E a → Rep Γ.w0 Γ.S H w → wpAnyK P .any ops (NoPanic Q) (Rep Γ.w0 Γ.S HS) t fuel listed a w
theorem At.any {id : Nat} {l : List Oper} (HS : List Res) (t : Nat) (hm : P.follows .mixedOrders = true) (k : KAt P Γ l.toArray HS t l.length (Array.replicate l.length false) E H Q) : At Γ E H ((Code.region id l.toArray true).wp P Q) := fun a w ha hw => by
  refine wp_mono (Q := NoPanic Q) (wp_region_any hm (wpAny_of_K _ _ _ _ (k a _ ha hw.drew))) fun e a w h => ?_
  cases e <;> first | exact h | exact h.elim
/-- A quiet operation is taken first. -/
theorem KAt.take (i : Nat) {o : Oper} (h : Val P Γ E HS o v) (hi : ops[i]? = some o) (hg : o.guard = none) (hd : o.dst = some d) (hn : Nat.blt d Γ.n = true) (hHS : ∀ w, Rep Γ.w0 Γ.S H w → Rep Γ.w0 Γ.S HS w)
    (hs : (Region.noSelect ops && Region.free .any ops listed i && (Region.ready .any ops listed).contains i && tailB .any ops t i && Nat.blt i t) = true)
    (k : KAt P Γ ops HS t fuel (listed.setIfInBounds i true) ((d, v) :: E) H Q) : KAt P Γ ops HS t (fuel + 1) listed E H Q := fun a w ha hw => by
  simp only [Bool.and_eq_true, Nat.blt_eq] at hs
  obtain ⟨⟨⟨⟨h1, h2⟩, h3⟩, h4⟩, h5⟩ := hs
  refine wpAnyK_first hi (Region.noSelect_spec h1) (fun c a w h => h) (tailB_spec h4) fuel listed a w (Region.free_spec hi h2) (by simpa using h3) h5 (v := v) (.inl ⟨by simp [Region.wanted, hg], fun w hw => h a w ha hw⟩) (hHS w hw) ?_
  rw [hd]
  exact k _ _ (ha.put d v hn) hw
theorem KAt.weaken (E' : Env) (hE : Sub E E') (k : KAt P Γ ops HS t fuel listed E' H Q) : KAt P Γ ops HS t fuel listed E H Q := fun a w ha hw => k a w (ha.weaken hE) hw
theorem KAt.drop (j : Nat) (k : KAt P Γ ops HS t fuel listed E (H.eraseIdx j) Q) : KAt P Γ ops HS t fuel listed E H Q := fun a w ha hw => k a w ha (hw.drop (List.eraseIdx_sublist ..))
theorem KAt.split {s : Nat} {b : Bool} (hl : look E s = some (.bool b)) (k1 : b = true → KAt P Γ ops HS t fuel listed ((s, .bool true) :: E) H Q) (k2 : b = false → KAt P Γ ops HS t fuel listed ((s, .bool false) :: E) H Q) : KAt P Γ ops HS t fuel listed E H Q := fun a w ha hw => by
  cases b
  · exact k2 rfl a w (ha.cons hl) hw
  · exact k1 rfl a w (ha.cons hl) hw
/-- What holds behind number i. -/
def KMid (P : Program) (Γ : Ctx) (ops : Array Oper) (HS : List Res) (t fuel : Nat) (listed : Array Bool) (i : Nat) (Q : Exit → Act → World → Prop) (a : Act) (w : World) : Prop :=
  (i < t → Rep Γ.w0 Γ.S HS w) ∧ wpAnyK P .any ops (NoPanic Q) (Rep Γ.w0 Γ.S HS) t fuel (listed.setIfInBounds i true) a w
/-- Only number i may come up. -/
theorem KAt.only (i : Nat) {o : Oper} (hi : ops[i]? = some o) (hr : Region.ready .any ops listed = [i])
    (k : At Γ E H (wpList P ops (Exit.then (KMid P Γ ops HS t fuel listed i Q) (NoPanic Q)) [o])) : KAt P Γ ops HS t (fuel + 1) listed E H Q := fun a w ha hw => by
  refine ⟨(fun h0 => by rw [hr] at h0; cases h0), fun j hj => ?_⟩
  rw [hr] at hj
  obtain rfl := List.mem_singleton.1 hj
  have := k a w ha hw
  unfold wpOp
  simp only [hi]
  unfold wpList at this
  split at this
  · rename_i hw'
    rw [if_pos hw']
    rcases this with h | ⟨h1, h2⟩
    · exact .inl (Oper.wp_then (Mid := KMid P Γ ops HS t fuel listed j Q) (Q := NoPanic Q) (fun a' w' h' => h') h)
    · exact .inr ⟨h1, h2⟩
  · rename_i hw'
    rw [if_neg hw']
    exact this
/-- One of two may come up. -/
theorem KAt.two (i j : Nat) {oi oj : Oper} (hi : ops[i]? = some oi) (hj : ops[j]? = some oj) (hr : Region.ready .any ops listed = [i, j])
    (ki : At Γ E H (wpList P ops (Exit.then (KMid P Γ ops HS t fuel listed i Q) (NoPanic Q)) [oi])) (kj : At Γ E H (wpList P ops (Exit.then (KMid P Γ ops HS t fuel listed j Q) (NoPanic Q)) [oj])) : KAt P Γ ops HS t (fuel + 1) listed E H Q := fun a w ha hw => by
  have key : ∀ (k : Nat) (ok : Oper), ops[k]? = some ok → wpList P ops (Exit.then (KMid P Γ ops HS t fuel listed k Q) (NoPanic Q)) [ok] a w → wpOp P ops (NoPanic Q) k (fun a' w' => (k < t → Rep Γ.w0 Γ.S HS w') ∧ wpAnyK P .any ops (NoPanic Q) (Rep Γ.w0 Γ.S HS) t fuel (listed.setIfInBounds k true) a' w') a w := fun k ok hk this => by
    unfold wpOp
    simp only [hk]
    unfold wpList at this
    split at this
    · rename_i hw'
      rw [if_pos hw']
      rcases this with h | ⟨h1, h2⟩
      · exact .inl (Oper.wp_then (Mid := KMid P Γ ops HS t fuel listed k Q) (Q := NoPanic Q) (fun a' w' h' => h') h)
      · exact .inr ⟨h1, h2⟩
    · rename_i hw'
      rw [if_neg hw']
      exact this
  refine ⟨(fun h0 => by rw [hr] at h0; cases h0), fun k hk => ?_⟩
  rw [hr] at hk
  rcases List.mem_cons.1 hk with rfl | hk
  · exact key _ _ hi (ki a w ha hw)
  · obtain rfl := List.mem_singleton.1 hk
    exact key _ _ hj (kj a w ha hw)
theorem KAt.go (hHS : ∀ w, Rep Γ.w0 Γ.S H w → Rep Γ.w0 Γ.S HS w) (k : KAt P Γ ops HS t fuel (listed.setIfInBounds i true) E H Q) : At Γ E H (Exit.then (KMid P Γ ops HS t fuel listed i Q) (NoPanic Q) .normal) := fun a w ha hw => ⟨fun _ => hHS w hw, k a w ha hw⟩
/-- .. of the tail. -/
theorem KAt.goT (hit : Nat.ble t i = true) (k : KAt P Γ ops HS t fuel (listed.setIfInBounds i true) E H Q) : At Γ E H (Exit.then (KMid P Γ ops HS t fuel listed i Q) (NoPanic Q) .normal) := fun a w ha hw => ⟨fun h => by have := Nat.le_of_ble_eq_true hit; omega, k a w ha hw⟩
theorem KAt.done (hr : Region.ready .any ops listed = []) (k : At Γ E H (Q .normal)) : KAt P Γ ops HS t fuel listed E H Q := fun a w ha hw => by
  cases fuel with
  | zero => exact ⟨hr, k a w ha hw⟩
  | succ n => exact ⟨fun _ => k a w ha hw, (fun i hi => by rw [hr] at hi; cases hi)⟩
end
end Wk
end Go
set_option linter.unusedVariables false
set_option linter.unusedSimpArgs false
namespace Go.Wk
open Go
section
variable {P : Program} {Γ : Ctx} {E E' : Env} {H HS : List Res} {ops : Array Oper} {Q : Exit → Act → World → Prop} {rest : List Oper}
  {d : Nat} {dst : Option Tmp} {ty : TypeId} {pos : String} {after : Array Edge} {x y z : Operand} {v u vy : Value} {g : Option (Nat × Bool)} {ψ : Act → Prop} {t' fuel : Nat} {listed : Array Bool}
theorem KAt.pin (hHS : ∀ w, Rep Γ.w0 Γ.S H w → Rep Γ.w0 Γ.S HS w) (k : KAt P Γ ops HS t' fuel listed E H Q) : KAt P Γ ops HS t' fuel listed E H Q := k
/-! ### lists of one cell each -/
theorem At.idxF {α : Type} {f : α → Value} {t el : Nat} {l : List α} {k : IntKind} {j : Int} (h : Rd Γ.w0 v 1 l.length (l.map f)) (hu : P.underlying t = some (.slice el)) (hs : ∀ w, (sizeOf el).run P w = .ok 1 w) (hx : ev E x = some v) (hy : ev E y = some (.int k j)) (h0 : 0 ≤ j) (h1 : j < l.length)
    (hg : g = none) (hn : Nat.blt d Γ.n = true)
    (c : ∀ b o q, l[j.toNat]? = some q → Γ.w0.cell? ⟨b, o, none⟩ = some (f q) → At Γ ((d, .pointer (some ⟨b, o, none⟩)) :: E) H (wpList P ops Q rest)) :
    At Γ E H (wpList P ops Q ({ dst := some d, op := .indexAddr t x y, type := ty, pos, after, guard := g } :: rest)) :=
  At.idxRd h hu hs hx hy h0 h1 hg hn fun b o hc => by
    have hq : l[j.toNat]? = some (l[j.toNat]'(by omega)) := List.getElem?_eq_getElem _
    exact c b o _ hq (hc 0 _ (by rw [Nat.mul_one, Nat.add_zero, List.getElem?_map, hq]; rfl))
/-! ### words -/
abbrev wrow (e : Nat) (v : Value) (l : List (BitVec 64)) : Res := rowR v e 1 l.length (l.map b64)
abbrev RdW (w : World) (v : Value) (l : List (BitVec 64)) : Prop := Rd w v 1 l.length (l.map b64)
theorem At.rowNilW (e : Nat) {φ : Act → World → Prop} (k : At Γ E (wrow e (.slice none 0 0) [] :: H) φ) : At Γ E H φ := At.rowNil e 1 k
theorem At.appendWs {i j t e by_ b U m : Nat} {ti : TypeInfo} {z : Value} {l ms : List (BitVec 64)} (ht : P.underlying t = some (.slice e)) (hti : P.info? e = some ti) (hz : ti.zero = some z) (hsize : ti.size = 1) (hby : ti.bytes = by_) (hzs : z.cells.size = 1)
    (hx : ev E x = some v) (hy : ev E y = some (.slice (some ⟨b, 0, none⟩) m m)) (hi : H[i]? = some (rowR v e 1 l.length (l.map b64))) (hm : ms.length = m) (hj : H[j]? = some (blk b U (ms.map b64))) (h63 : (l.length + m) * by_ ≤ 140737488355328) (h64 : l.length + m ≤ 140737488355328) (hn : Nat.blt d Γ.n = true)
    (k : ∀ v', At Γ ((d, v') :: E) (H.set i (wrow e v' (l ++ ms))) (wpList P ops Q rest)) :
    At Γ E H (wpList P ops Q ({ dst := some d, op := .call { callee := .builtin .append, args := #[x, y], argTypes := #[t, t] }, type := ty, pos, after, guard := none } :: rest)) :=
  At.append (i := i) (ys := ms.map b64) ht hti hz hsize hby hzs rfl hx hy hi (by rw [List.length_map, hm, Nat.mul_one]) (fun w hw j' u hj' => by rw [Nat.zero_add]; exact ((hw.blk hj).cell j').trans hj') (fun u hu => by obtain ⟨c, _, rfl⟩ := List.mem_map.1 hu; rfl) h63 h64 hn fun v' => by
    have := k v'
    unfold wrow at this
    rw [List.map_append, List.length_append, hm] at this
    exact this
theorem Holds.words {w : World} {b T n : Nat} {l : List (BitVec 64)} (h : Holds w b T (l.map b64)) (hn : l.length = n) : Rd w (.slice (some ⟨b, 0, none⟩) n n) 1 l.length (l.map b64) := by
  subst hn
  refine ⟨_, _, rfl, fun j u hj => ⟨b, 0, rfl, by rw [Nat.zero_add]; exact (h.cell j).trans hj⟩, by simp, Nat.le_refl _, (fun e => by cases e), (fun _ a e => by cases e; rfl)⟩
/-! ### copies into a row -/
theorem storeCells_row {w0 : World} {S : Nat → Prop} {i e sz n : Nat} : ∀ (vs : List Value) (o j : Nat) (xs : List Value) (H : List Res) (w : World), Rep w0 S H w → H[i]? = some (rowR v e sz n xs) → o + j + vs.length ≤ xs.length → (∀ u ∈ vs, u.oneCell' = true) →
    ∃ w', (storeCells ⟨rowB v, o, none⟩ vs j).run P w = .ok () w' ∧ Rep w0 S (H.set i (rowR v e sz n (putAt xs (o + j) vs))) w' := by
  intro vs
  induction vs with
  | nil =>
    intro o j xs H w hw hi ho _
    refine ⟨w, by simp [storeCells], ?_⟩
    have e1 : putAt xs (o + j) [] = xs := by simp [putAt]
    have e2 : H.set i (rowR v e sz n xs) = H := by
      apply List.ext_getElem?
      intro q
      rw [List.getElem?_set]
      split
      · rename_i e; subst e
        split
        · rw [hi]
        · rename_i hn; rw [List.getElem?_eq_none (by omega)]
      · rfl
    rw [e1, e2]; exact hw
  | cons u vs ih =>
    intro o j xs H w hw hi ho h1
    simp only [List.length_cons] at ho
    have hlt : o + j < xs.length := by omega
    have hown : w.ownsRow 0 e sz v n xs := hw.row hi
    have hc := row_cell hown (List.getElem?_eq_getElem hlt)
    have hf := row_frozen hown (List.getElem?_eq_getElem hlt)
    have hset : Rep w0 S (H.set i (rowR v e sz n (xs.set (o + j) u))) (w.setCell ⟨rowB v, o + j, none⟩ u) := by
      refine hw.change (r' := rowR v e sz n (xs.set (o + j) u)) hi ((Mod.setCell w _ _).mono fun b hb => ?_) (row_set hown hlt u) (fun b hb => .inl hb)
      rcases hown.2 with ⟨rfl, rfl⟩ | ⟨c, cap, cur, rfl, _⟩
      · have := hown.1; simp at this; rw [this] at hlt; simp at hlt
      · simp only [rowR, rowB, Value.ownBlock, Option.getD_some] at hb ⊢
        rw [hb]
    have hi' : (H.set i (rowR v e sz n (xs.set (o + j) u)))[i]? = some (rowR v e sz n (xs.set (o + j) u)) := by
      rw [List.getElem?_set]; simp; exact (List.getElem?_eq_some_iff.1 hi).1
    obtain ⟨w', hr, hw'⟩ := ih o (j + 1) _ _ _ hset hi' (by simp; omega) (fun u' hu => h1 u' (List.mem_cons_of_mem _ hu))
    refine ⟨w', ?_, ?_⟩
    · have h1v := h1 u (List.mem_cons_self ..)
      have hadd : (⟨rowB v, o, none⟩ : Addr).add j = ⟨rowB v, o + j, none⟩ := by unfold Addr.add; split <;> simp_all
      simp only [storeCells, Sem.run_bind, hadd]
      have : (store ⟨rowB v, o + j, none⟩ u).run P w = .ok () (w.setCell ⟨rowB v, o + j, none⟩ u) := by
        cases u <;> simp_all [store, Sem.run, Value.oneCell']
      rw [this, Result.andThen_ok, hr]
    · rw [List.set_set] at hw'
      have e1 : putAt (xs.set (o + j) u) (o + (j + 1)) vs = putAt xs (o + j) (u :: vs) := by
        unfold putAt
        rw [List.length_cons, List.drop_set_of_lt (by omega), show o + (j + 1) + vs.length = o + j + (vs.length + 1) by omega, show o + (j + 1) = (o + j) + 1 by omega, List.take_add_one, List.take_set_of_le (Nat.le_refl _), List.getElem?_set]
        simp [hlt]
      rw [e1] at hw'
      exact hw'
/-- A row that isn't empty is a block. -/
theorem At.rowSome {i e sz n : Nat} {xs : List Value} {φ : Act → World → Prop} (hi : H[i]? = some (rowR v e sz n xs)) (hn : 0 < n) (k : ∀ b c, v = .slice (some ⟨b, 0, none⟩) n c → At Γ E H φ) : At Γ E H φ := fun a w ha hw => by
  rcases (hw.row hi).2 with ⟨_, h⟩ | ⟨b, cap, cur, h, _⟩
  · omega
  · exact k b cap h a w ha hw
theorem putAt_map {l m : List UInt8} (o : Nat) : putAt (l.map bv) o (m.map bv) = (l.take o ++ m ++ l.drop (o + m.length)).map bv := by
  unfold putAt; simp [List.map_take, List.map_drop]
/-- A block of bytes behind a row. -/
theorem At.appendBlkB {i j t e by_ b U n c : Nat} {ti : TypeInfo} {z : Value} {l m : List UInt8} (ht : P.underlying t = some (.slice e)) (hti : P.info? e = some ti) (hz : ti.zero = some z) (hsize : ti.size = 1) (hby : ti.bytes = by_) (hzs : z.cells.size = 1)
    (hx : ev E x = some v) (hy : ev E y = some (.slice (some ⟨b, 0, none⟩) n c)) (hi : H[i]? = some (rowR v e 1 l.length (l.map bv))) (hj : H[j]? = some (blk b U (m.map bv))) (hm : m.length = n) (h63 : (l.length + n) * by_ ≤ 140737488355328) (h64 : l.length + n ≤ 140737488355328) (hn : Nat.blt d Γ.n = true)
    (k : ∀ v', At Γ ((d, v') :: E) (H.set i (brow e v' (l ++ m))) (wpList P ops Q rest)) :
    At Γ E H (wpList P ops Q ({ dst := some d, op := .call { callee := .builtin .append, args := #[x, y], argTypes := #[t, t] }, type := ty, pos, after, guard := none } :: rest)) :=
  At.append (i := i) (ys := m.map bv) ht hti hz hsize hby hzs rfl hx hy hi (by rw [List.length_map, hm, Nat.mul_one]) (fun w hw j' u hj' => by rw [Nat.zero_add]; exact ((hw.blk hj).cell j').trans hj') (bv_one m) h63 h64 hn fun v' => by
    have := k v'
    unfold brow at this
    rw [List.map_append, List.length_append, hm] at this
    exact this
theorem Mod.cell {w w' : World} (h : Mod (fun _ => False) w w') {p : Addr} {v : Value} (hc : w.cell? p = some v) : w'.cell? p = some v := by
  have hr : Rep w (fun _ => False) [] w' := ⟨by simp, by simp, by simp, h⟩
  exact hr.oldCell hc (fun h => h)
theorem At.rowOne {i e sz n : Nat} {xs : List Value} {φ : Act → World → Prop} (hi : H[i]? = some (rowR v e sz n xs)) (k : v.oneCell' = true → At Γ E H φ) : At Γ E H φ := fun a w ha hw => by
  rcases (hw.row hi).2 with ⟨h, _⟩ | ⟨b, cap, cur, h, _⟩ <;> exact k (by rw [h]; rfl) a w ha hw
theorem Rep.f0 {w0 w : World} {H : List Res} (h : Rep w0 (fun _ => False) H w) : Rep w0 (feet []) H w := by
  have e : feet [] = fun _ => False := funext fun b => by simp [feet]
  rw [e]; exact h
theorem Rep.nilRow {w0 w : World} {S : Nat → Prop} {H : List Res} (h : Rep w0 S H w) (e sz : Nat) : Rep w0 S (rowR (.slice none 0 0) e sz 0 [] :: H) w :=
  h.new (Mod.refl _ _) (World.ownsRow_nil w 0 e sz) (fun b hb => by simp [rowR, Value.ownBlock] at hb)
theorem Rep.newBlk {w0 w : World} {H : List Res} {i b T L : Nat} {cs : List Value} (h : Rep w0 (fun _ => False) H w) (hi : H[i]? = some (Wk.blk b T cs)) (hL : L < w0.heap.size) : L ≠ b := fun e => by
  rcases h.mine _ (List.mem_of_getElem? hi) b rfl with h1 | h1
  · omega
  · exact h1
theorem RdB.some {w : World} {v : Value} {l : List UInt8} (h : RdB w v l) (h0 : 0 < l.length) : ∃ L o c, v = .slice (some ⟨L, o, none⟩) l.length c ∧ Bytes w (some ⟨L, o, none⟩) l ∧ l.length ≤ c ∧ L < w.heap.size := by
  obtain ⟨A, c, h1, h2, h3, h4, h5⟩ := h.bytes
  obtain ⟨b, o, e, hc⟩ := h2 0 _ (List.getElem?_eq_getElem h0)
  subst e
  exact ⟨b, o, c, h1, h2, h3, block_lt_of_cell hc⟩
end
end Go.Wk
set_option linter.unusedVariables false
set_option linter.unusedSimpArgs false
namespace Go.Wk
open Go
section
variable {P : Program} {Γ : Ctx} {E E' : Env} {H : List Res} {ops : Array Oper} {Q : Exit → Act → World → Prop} {rest : List Oper}
  {d : Nat} {ty : TypeId} {pos : String} {after : Array Edge} {x y : Operand} {v : Value}
end
end Go.Wk
set_option linter.unusedVariables false
set_option linter.unusedSimpArgs false
namespace Go.Wk
open Go
section
variable {P : Program} {Γ : Ctx} {E E' : Env} {H HS : List Res} {ops : Array Oper} {Q : Exit → Act → World → Prop} {rest : List Oper}
  {d : Nat} {dst : Option Tmp} {ty : TypeId} {pos : String} {after : Array Edge} {x y z : Operand} {v u vy : Value} {g : Option (Nat × Bool)} {ψ : Act → Prop} {t' fuel : Nat} {listed : Array Bool}
/-! ### lists of pairs -/
def prS (l : List (Int × Int)) : List Value := l.flatMap fun c => [.int .i64 c.1, .int .i64 c.2]
theorem prS_append (a b : List (Int × Int)) : prS (a ++ b) = prS a ++ prS b := by simp [prS]
theorem prS_length (a : List (Int × Int)) : (prS a).length = a.length * 2 := by induction a with
  | nil => rfl
  | cons c a ih => simp only [prS, List.flatMap_cons, List.length_append, List.length_cons] at *; rw [ih]; simp; omega
theorem prS_at : ∀ {L : List (Int × Int)} {j : Nat} {c : Int × Int}, L[j]? = some c → (prS L)[j * 2]? = some (.int .i64 c.1) ∧ (prS L)[j * 2 + 1]? = some (.int .i64 c.2)
  | d :: L, 0, c, h => by
    have : d = c := by simpa using h
    subst this; exact ⟨rfl, rfl⟩
  | d :: L, j + 1, c, h => by
    have h' : L[j]? = some c := by simpa using h
    have := prS_at h'
    rw [show (j + 1) * 2 = j * 2 + 1 + 1 by omega]
    exact this
theorem prS_one (l : List (Int × Int)) : ∀ u ∈ prS l, u.oneCell' = true := fun u hu => by
  unfold prS at hu
  obtain ⟨c, _, hc⟩ := List.mem_flatMap.1 hu
  rcases List.mem_cons.1 hc with rfl | hc
  · rfl
  · obtain rfl := List.mem_singleton.1 hc
    rfl
theorem prS_take : ∀ (l : List (Int × Int)) (k : Nat), prS (l.take k) = (prS l).take (k * 2)
  | [], k => by simp [prS]
  | c :: l, 0 => by simp [prS]
  | c :: l, k + 1 => by
    rw [List.take_succ_cons, show (k + 1) * 2 = k * 2 + 1 + 1 by omega]
    simp only [prS, List.flatMap_cons, List.cons_append, List.nil_append, List.take_succ_cons]
    have := prS_take l k
    unfold prS at this
    rw [this]
abbrev RdS (w : World) (v : Value) (l : List (Int × Int)) : Prop := Rd w v 2 l.length (prS l)
abbrev srow (e : Nat) (v : Value) (l : List (Int × Int)) : Res := rowR v e 2 l.length (prS l)
theorem At.idxS {t el : Nat} {l : List (Int × Int)} {k : IntKind} {j : Int} (h : RdS Γ.w0 v l) (hu : P.underlying t = some (.slice el)) (hs : ∀ w, (sizeOf el).run P w = .ok 2 w) (hx : ev E x = some v) (hy : ev E y = some (.int k j)) (h0 : 0 ≤ j) (h1 : j < l.length)
    (hg : g = none) (hn : Nat.blt d Γ.n = true)
    (c : ∀ b o q, l[j.toNat]? = some q → Γ.w0.cell? ⟨b, o, none⟩ = some (.int .i64 q.1) → Γ.w0.cell? ⟨b, o + 1, none⟩ = some (.int .i64 q.2) → At Γ ((d, .pointer (some ⟨b, o, none⟩)) :: E) H (wpList P ops Q rest)) :
    At Γ E H (wpList P ops Q ({ dst := some d, op := .indexAddr t x y, type := ty, pos, after, guard := g } :: rest)) :=
  At.idxRd h hu hs hx hy h0 h1 hg hn fun b o hc => by
    have hq : l[j.toNat]? = some (l[j.toNat]'(by omega)) := List.getElem?_eq_getElem _
    have hp := prS_at hq
    exact c b o _ hq (hc 0 _ hp.1) (hc 1 _ hp.2)
theorem QAt.idxS {t el : Nat} {l : List (Int × Int)} {k : IntKind} {j : Int} (h : RdS Γ.w0 v l) (hu : P.underlying t = some (.slice el)) (hs : ∀ w, (sizeOf el).run P w = .ok 2 w) (hx : ev E x = some v) (hy : ev E y = some (.int k j)) (h0 : 0 ≤ j) (h1 : j < l.length)
    (hg : g = none) (hn : Nat.blt d Γ.n = true)
    (c : ∀ b o q, l[j.toNat]? = some q → Γ.w0.cell? ⟨b, o, none⟩ = some (.int .i64 q.1) → Γ.w0.cell? ⟨b, o + 1, none⟩ = some (.int .i64 q.2) → QAt P Γ ops ((d, .pointer (some ⟨b, o, none⟩)) :: E) H rest ψ) :
    QAt P Γ ops E H ({ dst := some d, op := .indexAddr t x y, type := ty, pos, after, guard := g } :: rest) ψ :=
  QAt.idxRd h hu hs hx hy h0 h1 hg hn fun b o hc => by
    have hq : l[j.toNat]? = some (l[j.toNat]'(by omega)) := List.getElem?_eq_getElem _
    have hp := prS_at hq
    exact c b o _ hq (hc 0 _ hp.1) (hc 1 _ hp.2)
theorem Val.loadSpan {t b o : Nat} {q : Int × Int} (hA : ∀ w, (isAgg t).run P w = .ok true w) (hs : ∀ w, (sizeOf t).run P w = .ok 2 w) (hx : ev E x = some (.pointer (some ⟨b, o, none⟩))) (h0 : Γ.w0.cell? ⟨b, o, none⟩ = some (.int .i64 q.1)) (h1 : Γ.w0.cell? ⟨b, o + 1, none⟩ = some (.int .i64 q.2)) (hS : ¬ Γ.S b) :
    Val P Γ E H ⟨dst, .load t x, ty, pos, after, g⟩ (.agg #[.int .i64 q.1, .int .i64 q.2]) :=
  Val.loadOldPart (vs := [.int .i64 q.1, .int .i64 q.2]) hA hs hx rfl (fun j u hj => by
    match j, hj with
    | 0, hj => (obtain rfl := Option.some.inj hj; exact h0)
    | 1, hj => (obtain rfl := Option.some.inj hj; exact h1)) hS
theorem At.rowNilS (e : Nat) {φ : Act → World → Prop} (k : At Γ E (srow e (.slice none 0 0) [] :: H) φ) : At Γ E H φ := At.rowNil e 2 k
theorem srow_snoc (e : Nat) (v : Value) (l : List (Int × Int)) (a : Int) (x : Int) : rowR v e 2 (l.length + 1) (prS l ++ [.int .i64 a, .int .i64 x]) = srow e v (l ++ [(a, x)]) := by
  unfold srow; rw [prS_append, List.length_append]; rfl
/-- A pair behind a row. -/
theorem At.appendS1 {i j t e by_ b U : Nat} {ti : TypeInfo} {z : Value} {l : List (Int × Int)} {a : Int} {w' : Int} (ht : P.underlying t = some (.slice e)) (hti : P.info? e = some ti) (hz : ti.zero = some z) (hsize : ti.size = 2) (hby : ti.bytes = by_) (hzs : z.cells.size = 2)
    (hx : ev E x = some v) (hy : ev E y = some (.slice (some ⟨b, 0, none⟩) 1 1)) (hi : H[i]? = some (rowR v e 2 l.length (prS l))) (hj : H[j]? = some (blk b U [.int .i64 a, .int .i64 w'])) (h63 : (l.length + 1) * by_ ≤ 140737488355328) (h64 : l.length + 1 ≤ 140737488355328) (hn : Nat.blt d Γ.n = true)
    (k : ∀ v', At Γ ((d, v') :: E) (H.set i (srow e v' (l ++ [(a, w')]))) (wpList P ops Q rest)) :
    At Γ E H (wpList P ops Q ({ dst := some d, op := .call { callee := .builtin .append, args := #[x, y], argTypes := #[t, t] }, type := ty, pos, after, guard := none } :: rest)) :=
  At.append (i := i) (ys := [.int .i64 a, .int .i64 w']) ht hti hz hsize hby hzs rfl hx hy hi rfl (fun w hw j' u hj' => by rw [Nat.zero_add]; exact ((hw.blk hj).cell j').trans hj') (by simp [Value.oneCell']) h63 h64 hn fun v' => by
    have := k v'
    rw [← srow_snoc] at this
    exact this
theorem At.appendRdS {i t e by_ : Nat} {ti : TypeInfo} {z : Value} {l m : List (Int × Int)} (ht : P.underlying t = some (.slice e)) (hti : P.info? e = some ti) (hz : ti.zero = some z) (hsize : ti.size = 2) (hby : ti.bytes = by_) (hzs : z.cells.size = 2)
    (hx : ev E x = some v) (hy : ev E y = some vy) (hi : H[i]? = some (rowR v e 2 l.length (prS l))) (hr : RdS Γ.w0 vy m) (ho : Off vy (prS m) Γ.S) (h63 : (l.length + m.length) * by_ ≤ 140737488355328) (h64 : l.length + m.length ≤ 140737488355328) (hn : Nat.blt d Γ.n = true)
    (k : ∀ v', At Γ ((d, v') :: E) (H.set i (srow e v' (l ++ m))) (wpList P ops Q rest)) :
    At Γ E H (wpList P ops Q ({ dst := some d, op := .call { callee := .builtin .append, args := #[x, y], argTypes := #[t, t] }, type := ty, pos, after, guard := none } :: rest)) :=
  At.appendRd ht hti hz hsize hby hzs rfl hx hy hi hr ho (prS_one m) h63 h64 hn fun v' => by
    have := k v'
    simpa only [srow, prS_append, List.length_append] using this
theorem prS_drop (l : List (Int × Int)) (k : Nat) (hk : k ≤ l.length) : (prS l).drop (k * 2) = prS (l.drop k) := by
  have h : prS l = prS (l.take k) ++ prS (l.drop k) := by rw [← prS_append, List.take_append_drop]
  have hl : (prS (l.take k)).length = k * 2 := by rw [prS_length, List.length_take, Nat.min_eq_left hk]
  rw [h, ← hl, List.drop_left]
end
end Go.Wk
set_option linter.unusedVariables false
set_option linter.unusedSimpArgs false
namespace Go.Proofs.YthhkbbodhghmcaaGreatDoor
open Go Go.Wk
theorem and1 (x : BitVec 32) : ib .and .u32 (x.toNat : Int) 1 = ((x &&& 1).toNat : Int) := and32 x 1
theorem xorp (x : BitVec 32) : ib .xor .u32 (x.toNat : Int) 3988292384 = ((x ^^^ poly).toNat : Int) := xor32 x poly
theorem bit_T {r : BitVec 32} (h : (((r &&& 1).toNat : Int) == 1) = true) : bit r = (r >>> 1) ^^^ poly := by
  have h' : ((r &&& 1).toNat : Int) = 1 := by simpa using h
  have : (r &&& 1) = 1 := by apply BitVec.eq_of_toNat_eq; show (r &&& 1).toNat = 1; omega
  unfold bit; rw [if_pos this]
theorem bit_F {r : BitVec 32} (h : (((r &&& 1).toNat : Int) == 1) = false) : bit r = r >>> 1 := by
  have : ¬ (r &&& 1) = 1 := by intro e; rw [e] at h; simp at h
  unfold bit; rw [if_neg this]
theorem rsumOn_p (s : BitVec 32) (A : Option Addr) (l : List UInt8) (c : Nat) (w : World) (hb : Bytes w A l) (hlen : l.length ≤ 140737488355328) :
    PureC Tryz.prog 112 [b32 s, .slice A l.length c] (b32 (sumOn s l)) w := by
 refine enter0 Tryz.func112 rfl Tryz.ntmps112 rfl ?_
 simp only [envOf]
 refine tR ?_
 refine tA rfl rfl ?_
 refine tE ?_
 refine tR ?_
 refine tM rfl rfl ?_
 refine At.val (Val.com rfl) rfl rfl rfl ?_
 refine tA rfl rfl ?_
 refine tE ?_
 refine At.seq ?_
 refine tR ?_
 refine tA rfl rfl ?_
 refine tE ?_
 refine At.block ?_
 skip
 refine At.loop (σ := Nat) (fun k => k ≤ l.length) (fun k => [(0, b32 s), (1, .slice A l.length c), (5, b32 (crc (~~~s) (l.take k))), (6, .int .i64 k)]) (fun k => []) (fun k => l.length - k) 0 (Nat.zero_le _) (Sub.cons rfl (Sub.cons rfl (Sub.cons (congrArg (fun z => some (Value.int IntKind.u32 z)) (com32 s)) (Sub.cons rfl Sub.nil)))) (List.Perm.refl _) ?_
 intro k hs
 refine At.seq ?_
 refine tR ?_
 refine tM rfl rfl ?_
 refine tM rfl rfl ?_
 refine At.val (Val.len (bt := #[]) Tryz.underlying59 rfl) rfl rfl rfl ?_
 refine At.val (Val.bin rfl rfl rfl) rfl rfl rfl ?_
 refine tE ?_
 refine At.cond rfl (fun h1 => ?_) (fun h1 => ?_)
 ·skip
  have hk : k < l.length := by simpa using h1
  obtain ⟨c', hc'⟩ : ∃ c', l[k]? = some c' := ⟨_, List.getElem?_eq_getElem hk⟩
  obtain ⟨b, o, rfl, hcell⟩ := hb k c' hc'
  refine At.skipC ?_
  refine At.thenN ?_
  refine At.seq ?_
  refine At.block ?_
  refine tR ?_
  refine tM rfl rfl ?_
  refine tM rfl rfl ?_
  refine tM rfl rfl ?_
  refine At.val (Val.indexSl (o + k) (by simp) Tryz.underlying59 Tryz.sizeOf5 rfl rfl (by omega) (by omega)) rfl rfl rfl ?_
  refine At.val (Val.loadOld Tryz.isAgg5 rfl hcell (fun h => h)) rfl rfl rfl ?_
  refine At.val (Val.conv Tryz.underlying5 Tryz.underlying76 rfl) rfl rfl rfl ?_
  refine At.val (Val.bin rfl rfl rfl) rfl rfl rfl ?_
  rw [wrap_u32_nat, xor32]
  refine tA rfl rfl ?_
  refine tE ?_
  refine tR ?_
  refine tA rfl rfl ?_
  refine tE ?_
  refine At.block ?_
  skip
  refine At.loop (σ := Nat) (fun j => j ≤ 8) (fun j => [(0, b32 s), (1, .slice (some ⟨b, o, none⟩) l.length c), (5, b32 (bitN j (crc (~~~s) (l.take k) ^^^ BitVec.ofNat 32 c'.toNat))), (6, .int .i64 k), (7, .int .i64 j)]) (fun j => []) (fun j => 8 - j) 0 (by omega) (Sub.cons rfl (Sub.cons rfl (Sub.cons rfl (Sub.cons rfl (Sub.cons rfl Sub.nil))))) (List.Perm.refl _) ?_
  intro j hs
  refine At.seq ?_
  refine tR ?_
  refine tM rfl rfl ?_
  refine At.val (Val.bin rfl rfl rfl) rfl rfl rfl ?_
  refine tE ?_
  refine At.cond rfl (fun h2 => ?_) (fun h2 => ?_)
  ·skip
   have hj : j < 8 := by have := h2; simp at this; omega
   refine At.skipC ?_
   refine At.thenN ?_
   refine At.seq ?_
   refine At.block ?_
   refine tR ?_
   refine tM rfl rfl ?_
   refine At.val (Val.bin rfl rfl rfl) rfl rfl rfl ?_
   rw [and1]
   refine tA rfl rfl ?_
   refine tE ?_
   refine tR ?_
   refine tM rfl rfl ?_
   refine At.val (Val.shr rfl rfl (by decide)) rfl rfl rfl ?_
   rw [show ((bitN j (crc (~~~s) (l.take k) ^^^ BitVec.ofNat 32 c'.toNat)).toNat : Int).fdiv (2 ^ min (1 : Int).toNat IntKind.u32.bits) = ((bitN j (crc (~~~s) (l.take k) ^^^ BitVec.ofNat 32 c'.toNat)) >>> 1).toNat from shr32 _ 1 (by decide)]
   refine tA rfl rfl ?_
   refine tE ?_
   refine tR ?_
   refine tM rfl rfl ?_
   refine At.val (Val.bin rfl rfl rfl) rfl rfl rfl ?_
   refine tE ?_
   refine At.cond rfl (fun h3 => ?_) (fun h3 => ?_)
   ·skip
    refine At.region ?_
    refine tM rfl rfl ?_
    refine At.val (Val.bin rfl rfl rfl) rfl rfl rfl ?_
    rw [xorp]
    refine tA rfl rfl ?_
    refine At.nil ?_
    refine At.blkN ?_
    refine At.thenN ?_
    refine At.region ?_
    refine tM rfl rfl ?_
    refine At.val (Val.bin rfl rfl rfl) rfl rfl rfl ?_
    refine tA rfl rfl ?_
    refine tE ?_
    exact At.again (j + 1) (by omega) (by omega) (Sub.cons rfl (Sub.cons rfl (Sub.cons (congrArg (fun z => some (Value.int IntKind.u32 z)) (by rw [show bitN (j + 1) (crc (~~~s) (l.take k) ^^^ BitVec.ofNat 32 c'.toNat) = bit (bitN j (crc (~~~s) (l.take k) ^^^ BitVec.ofNat 32 c'.toNat)) from rfl, bit_T ‹_›])) (Sub.cons rfl (Sub.cons (congrArg (fun z => some (Value.int IntKind.i64 z)) (wrap_i64 (by omega) (by omega))) Sub.nil))))) (List.Perm.refl _)
   ·skip
    refine At.skipC ?_
    refine At.blkN ?_
    refine At.thenN ?_
    refine At.region ?_
    refine tM rfl rfl ?_
    refine At.val (Val.bin rfl rfl rfl) rfl rfl rfl ?_
    refine tA rfl rfl ?_
    refine tE ?_
    exact At.again (j + 1) (by omega) (by omega) (Sub.cons rfl (Sub.cons rfl (Sub.cons (congrArg (fun z => some (Value.int IntKind.u32 z)) (by rw [show bitN (j + 1) (crc (~~~s) (l.take k) ^^^ BitVec.ofNat 32 c'.toNat) = bit (bitN j (crc (~~~s) (l.take k) ^^^ BitVec.ofNat 32 c'.toNat)) from rfl, bit_F ‹_›])) (Sub.cons rfl (Sub.cons (congrArg (fun z => some (Value.int IntKind.i64 z)) (wrap_i64 (by omega) (by omega))) Sub.nil))))) (List.Perm.refl _)
  ·skip
   have hj : j = 8 := by have := h2; simp at this; omega
   refine At.exitC ?_
   refine At.thenX ?_
   refine At.thenX ?_
   refine At.blkX ?_
   refine At.blkN ?_
   refine At.thenN ?_
   refine At.region ?_
   refine tM rfl rfl ?_
   refine At.val (Val.bin rfl rfl rfl) rfl rfl rfl ?_
   refine tA rfl rfl ?_
   refine tE ?_
   exact At.again (k + 1) (by omega) (by omega) (Sub.cons rfl (Sub.cons rfl (Sub.cons (congrArg (fun z => some (Value.int IntKind.u32 z)) (by rw [hj, crcByte_bits, crc_take_succ _ _ _ _ hc'])) (Sub.cons (congrArg (fun z => some (Value.int IntKind.i64 z)) (wrap_i64 (by omega) (by omega))) Sub.nil)))) (List.Perm.refl _)
 ·skip
  have hk : k = l.length := by have := h1; simp at this; omega
  refine At.exitC ?_
  refine At.thenX ?_
  refine At.thenX ?_
  refine At.blkX ?_
  refine At.thenN ?_
  refine tR ?_
  refine tM rfl rfl ?_
  refine At.val (Val.com rfl) rfl rfl rfl ?_
  refine tA rfl rfl ?_
  refine tE ?_
  refine At.retC ?_
  refine At.ret1 (.inl rfl) rfl rfl rfl (fun w hw => ?_)
  exact ⟨by rw [com32, hk, List.take_length]; rfl, hw.mod⟩
theorem rsum_p (A : Option Addr) (l : List UInt8) (c : Nat) (w : World) (hb : Bytes w A l) (hlen : l.length ≤ 140737488355328) :
    PureC Tryz.prog 95 [.slice A l.length c] (b32 (sumOn 0 l)) w := by
 refine enter0 Tryz.func95 rfl Tryz.ntmps95 rfl ?_
 simp only [envOf]
 refine tR ?_
 refine tA rfl rfl ?_
 refine tE ?_
 refine tR ?_
 refine tM rfl rfl ?_
 refine At.callP (fun w hw => rsumOn_p 0 _ _ _ w (hb.mod hw.mod) hlen) Tryz.call112 rfl rfl ?_
 refine tA rfl rfl ?_
 refine tE ?_
 refine At.retC ?_
 refine At.ret1 (.inl rfl) rfl rfl rfl (fun w hw => ?_)
 exact ⟨rfl, hw.mod⟩
theorem rsum_n (A : Option Addr) (l : List UInt8) (n c : Nat) (w : World) (hn : l.length = n) (hb : Bytes w A l) (hlen : n ≤ 140737488355328) : PureC Tryz.prog 95 [.slice A n c] (b32 (sumOn 0 l)) w := by
  subst hn; exact rsum_p A l c w hb hlen
theorem lay_rem (n : Nat) : IntKind.u8.wrap ((n : Int).tmod 256) = ((UInt8.ofNat n).toNat : Int) := by
  rw [show (n : Int).tmod 256 = ((n % 256 : Nat) : Int) from by rw [Int.tmod_eq_emod_of_nonneg (by omega)]; omega, wrap_u8_nat, ofNat_mod]
theorem lay_quo (n : Nat) (h : n < 18446744073709551616) : IntKind.u64.wrap ((n : Int).tdiv 256) = ((n / 256 : Nat) : Int) := by
  rw [show (n : Int).tdiv 256 = ((n / 256 : Nat) : Int) from by rw [Int.tdiv_eq_ediv_of_nonneg (by omega)]; omega, wrap_u64 (by omega) (by omega)]
theorem rlay_p (v : Value) (l : List UInt8) (x cnt : Nat) (w : World) (ho : w.ownsRow 0 5 1 v l.length (l.map bv)) (hx : x < 18446744073709551616) (hc : cnt ≤ 8) (hlen : l.length + cnt ≤ 140737488355328) :
    RowUpd Tryz.prog 94 [v, .int .u64 (x : Int), .int .i64 (cnt : Int)] v 5 1 l.length (l.map bv) (l ++ le cnt x).length ((l ++ le cnt x).map bv) w := by
 refine enter (feet [brow 5 v l]) [brow 5 v l] Tryz.func94 rfl Tryz.ntmps94 rfl (Rep.one ho) ?_
 simp only [envOf]
 refine tR ?_
 refine tA rfl rfl ?_
 refine tE ?_
 refine At.seq ?_
 refine tR ?_
 refine tA rfl rfl ?_
 refine tE ?_
 refine At.block ?_
 skip
 refine At.loop (σ := Nat × Value) (fun s => s.1 ≤ cnt) (fun s => [(0, s.2), (1, .int .u64 ((x / 256 ^ s.1 : Nat) : Int)), (2, .int .i64 (cnt : Int)), (7, .int .i64 (s.1 : Int))]) (fun s => [brow 5 s.2 (l ++ (le cnt x).take s.1)]) (fun s => cnt - s.1) (0, v) (Nat.zero_le _) (Sub.cons rfl (Sub.cons (congrArg (fun z => some (Value.int IntKind.u64 z)) (by simp)) (Sub.cons rfl (Sub.cons rfl Sub.nil)))) (by simp [List.take_zero]) ?_
 intro s hs
 obtain ⟨k, vk⟩ := s
 dsimp only at hs ⊢
 refine At.seq ?_
 refine tR ?_
 refine tM rfl rfl ?_
 refine tM rfl rfl ?_
 refine At.val (Val.bin rfl rfl rfl) rfl rfl rfl ?_
 refine tE ?_
 refine At.cond rfl (fun h1 => ?_) (fun h1 => ?_)
 ·skip
  have hk : k < cnt := by have := h1; simp at this; omega
  refine At.skipC ?_
  refine At.thenN ?_
  refine At.seq ?_
  refine At.block ?_
  refine tR ?_
  refine tM rfl rfl ?_
  refine tM rfl rfl ?_
  refine At.val (Val.rem rfl rfl (by decide)) rfl rfl rfl ?_
  refine At.val (Val.conv Tryz.underlying32 Tryz.underlying5 rfl) rfl rfl rfl ?_
  rw [lay_rem]
  refine At.buildSl (fun a ha => by simp only [List.map_toArray, List.map_cons, List.map_nil, ha.eval (x := (.tmp 16)) rfl]; try rfl) (bs_59_1 _ ) rfl (fun b2 => ?_)
  refine At.append (i := 1) (sz := 1) (by_ := 1) Tryz.underlying59 info_5 rfl rfl rfl rfl rfl rfl rfl rfl rfl (fun w hw j u hj => by rw [Nat.zero_add]; exact ((hw.blk (i := 0) rfl).cell j).trans hj) (by simp [Value.oneCell']) (by rw [List.length_append, List.length_take, le_length]; omega) (by rw [List.length_append, List.length_take, le_length]; omega) rfl (fun v3 => ?_)
  simp only [sc0, scS]
  refine At.drop 0 ?_
  simp only [ec0, ecS]
  refine tA rfl rfl ?_
  refine At.nil ?_
  rw [brow_snoc, List.append_assoc, ← le_take_succ _ _ _ hk]
  refine At.thenN ?_
  refine At.region ?_
  refine tM rfl rfl ?_
  refine At.val (Val.quo rfl rfl (by decide)) rfl rfl rfl ?_
  rw [lay_quo _ (Nat.lt_of_le_of_lt (Nat.div_le_self _ _) hx), Nat.div_div_eq_div_mul, ← Nat.pow_succ]
  refine tA rfl rfl ?_
  refine At.nil ?_
  refine At.blkN ?_
  refine At.thenN ?_
  refine At.region ?_
  refine tM rfl rfl ?_
  refine At.val (Val.bin rfl rfl rfl) rfl rfl rfl ?_
  refine tA rfl rfl ?_
  refine tE ?_
  exact At.again (k + 1, v3) (show k + 1 ≤ cnt by omega) (by dsimp only; omega) (Sub.cons rfl (Sub.cons rfl (Sub.cons rfl (Sub.cons (congrArg (fun z => some (Value.int IntKind.i64 z)) (wrap_i64 (by omega) (by omega))) Sub.nil)))) (List.Perm.refl _)
 ·skip
  have hk : k = cnt := by have := h1; simp at this; omega
  refine At.exitC ?_
  refine At.thenX ?_
  refine At.thenX ?_
  refine At.blkX ?_
  refine At.thenN ?_
  refine tR ?_
  refine tM rfl rfl ?_
  refine tA rfl rfl ?_
  refine tE ?_
  refine At.retC ?_
  refine At.ret1 (.inl rfl) rfl rfl rfl (fun w hw => ?_)
  exact ⟨vk, rfl, by have := hw; rw [hk, le_take_all] at this; exact this⟩
end Go.Proofs.YthhkbbodhghmcaaGreatDoor
set_option linter.unusedVariables false
set_option linter.unusedSimpArgs false
namespace Go.Wk
open Go
def lineL (b : List UInt8) : List UInt8 := closeL (b ++ zs (64 - b.length))
def superB (p i c : Nat) : List UInt8 := [70, 85, 82, 82, 79, 87, 48, 49] ++ le 4 p ++ le 4 i ++ le 4 c
end Go.Wk
set_option linter.unusedVariables false
set_option linter.unusedSimpArgs false
namespace Go.Wk
open Go
def num (l : List UInt8) (at_ n : Nat) : Nat := fromLe ((l.drop at_).take n)
theorem fromLe_append : ∀ (a b : List UInt8), fromLe (a ++ b) = fromLe a + 256 ^ a.length * fromLe b
  | [], b => by simp [fromLe]
  | c :: a, b => by
    simp only [List.cons_append, fromLe, fromLe_append a b, List.length_cons, Nat.pow_succ]
    rw [Nat.mul_add, Nat.add_assoc, ← Nat.mul_assoc, Nat.mul_comm 256 (256 ^ a.length)]
theorem num_zero (l : List UInt8) (at_ : Nat) : num l at_ 0 = 0 := by simp [num, fromLe]
theorem num_succ {l : List UInt8} {at_ k : Nat} {c : UInt8} (h : l[at_ + k]? = some c) : num l at_ (k + 1) = num l at_ k + 256 ^ k * c.toNat := by
  have hk : at_ + k < l.length := (List.getElem?_eq_some_iff.1 h).1
  have h1 : (l.drop at_)[k]? = some c := by rw [List.getElem?_drop]; exact h
  unfold num
  rw [List.take_add_one, h1]
  simp only [Option.toList_some]
  rw [fromLe_append]
  simp only [List.length_take, List.length_drop, fromLe]
  rw [show min k (l.length - at_) = k by omega]
  simp
theorem num_lt {l : List UInt8} (at_ n : Nat) : num l at_ n < 256 ^ n := by
  have h := fromLe_lt ((l.drop at_).take n)
  exact Nat.lt_of_lt_of_le h (Nat.pow_le_pow_right (by decide) (by simp; omega))
theorem num_or {l : List UInt8} {at_ k : Nat} {c : UInt8} (h : l[at_ + k]? = some c) (hk : k < 8) :
    ib .or .u64 ((num l at_ k : Nat) : Int) (IntKind.u64.wrap ((c.toNat : Int) * 2 ^ min (8 * (k : Int)).toNat IntKind.u64.bits)) = ((num l at_ (k + 1) : Nat) : Int) := by
  have e8 : (8 * (k : Int)).toNat = 8 * k := by omega
  have h1 : num l at_ k < 256 ^ k := num_lt at_ k
  have hp : 256 ^ k = 2 ^ (8 * k) := by rw [Nat.pow_mul]
  have hle : 256 ^ (k + 1) ≤ 18446744073709551616 := by
    rw [show (18446744073709551616 : Nat) = 256 ^ 8 from rfl]; exact Nat.pow_le_pow_right (by decide) (by omega)
  have h2 : num l at_ (k + 1) < 256 ^ (k + 1) := num_lt at_ (k + 1)
  have h3 := num_succ h
  have hx : (BitVec.ofNat 64 (num l at_ k)).toNat = num l at_ k := by rw [BitVec.toNat_ofNat]; omega
  have hy : (BitVec.ofNat 64 (256 ^ k * c.toNat)).toNat = 256 ^ k * c.toNat := by rw [BitVec.toNat_ofNat]; omega
  have e : IntKind.u64.wrap ((c.toNat : Int) * 2 ^ min (8 * (k : Int)).toNat IntKind.u64.bits) = ((256 ^ k * c.toNat : Nat) : Int) := by
    rw [e8, show min (8 * k) IntKind.u64.bits = 8 * k from Nat.min_eq_left (by show 8 * k ≤ 64; omega)]
    rw [show (c.toNat : Int) * 2 ^ (8 * k) = ((256 ^ k * c.toNat : Nat) : Int) from by rw [hp]; push_cast; rw [Int.mul_comm]]
    exact wrap_u64 (by omega) (by omega)
  rw [e, ← hx, ← hy, or64, BitVec.toNat_or, hx, hy, h3]
  congr 1
  rw [hp, Nat.or_comm, ← Nat.two_pow_add_eq_or_of_lt (by rw [← hp]; exact h1), Nat.add_comm]
theorem cut_bytes {w : World} {L o c at_ n : Nat} {l : List UInt8} (hb : Bytes w (some ⟨L, o, none⟩) l) (hc : l.length ≤ c) (hn : at_ + n ≤ l.length) :
    Bytes w (some ⟨L, if c = at_ then o else o + at_ * 1, none⟩) ((l.drop at_).take n) := fun k u hk => by
  have hk' : k < ((l.drop at_).take n).length := (List.getElem?_eq_some_iff.1 hk).1
  have hkn : k < n := by simp at hk'; omega
  have h1 : l[at_ + k]? = some u := by
    rw [List.getElem?_take, if_pos hkn, List.getElem?_drop] at hk; exact hk
  obtain ⟨b, o', hbo, hcell⟩ := hb _ _ h1
  simp only [Option.some.injEq, Addr.mk.injEq] at hbo
  obtain ⟨rfl, rfl, _⟩ := hbo
  rw [if_neg (by omega)]
  exact ⟨L, o + at_ * 1, rfl, by rw [← hcell]; congr 2; omega⟩
abbrev eyeC (L o m c at_ : Nat) : List Value := [.slice (some ⟨L, o, none⟩) m c, .int .i64 (at_ : Nat)]
def allZero (l : List UInt8) : Prop := ∀ c ∈ l, c = 0
instance (l : List UInt8) : Decidable (allZero l) := by unfold allZero; infer_instance
theorem allZero_at {l : List UInt8} {k : Nat} {c : UInt8} (h : l[k]? = some c) (hz : allZero l) : c = 0 := hz c (List.mem_of_getElem? h)
theorem zero_byte {c : UInt8} (h : (c.toNat : Int) = 0) : c = 0 := by
  apply UInt8.toNat_inj.1; simpa using h
end Go.Wk
set_option linter.unusedVariables false
set_option linter.unusedSimpArgs false
namespace Go.Wk
open Go
theorem num_cons {l : List UInt8} {a m : Nat} {c : UInt8} (h : l[a]? = some c) : num l a (m + 1) = num l (a + 1) m * 256 + c.toNat := by
  have hk : a < l.length := (List.getElem?_eq_some_iff.1 h).1
  have e := List.getElem?_eq_getElem hk
  rw [h] at e
  obtain rfl := Option.some.inj e
  unfold num
  rw [List.drop_eq_getElem_cons hk, List.take_succ_cons, fromLe]
  omega
/-- A number that is read is laid again as it stood. -/
theorem le_num {l : List UInt8} {a n : Nat} (h : a + n ≤ l.length) : le n (num l a n) = (l.drop a).take n := by
  have := le_fromLe ((l.drop a).take n)
  rw [show ((l.drop a).take n).length = n by simp; omega] at this
  exact this
theorem allZero_eq {l : List UInt8} (h : allZero l) : l = zs l.length := List.eq_replicate_iff.2 ⟨rfl, h⟩
def SupLine (l : List UInt8) : Prop := lineL (superB (num l 8 4) (num l 12 4) (num l 16 4)) = l
instance (l : List UInt8) : Decidable (SupLine l) := by unfold SupLine; infer_instance
end Go.Wk
set_option linter.unusedVariables false
set_option linter.unusedSimpArgs false
namespace Go.Wk
open Go
theorem seal_nat {a : BitVec 64} {v : BitVec 32} (h : v ≠ 0) : (sealW a v).toNat = (checkW a v).toNat * 4294967296 + v.toNat := by
  rw [seal_some h, BitVec.toNat_or, BitVec.toNat_shiftLeft, BitVec.toNat_setWidth, BitVec.toNat_setWidth]
  have h1 := (checkW a v).isLt
  have h2 := v.isLt
  rw [Nat.mod_eq_of_lt (a := (checkW a v).toNat) (by omega), Nat.mod_eq_of_lt (a := v.toNat) (by omega), Nat.shiftLeft_eq, Nat.mod_eq_of_lt (by omega), Nat.mul_comm]
  rw [show 2 ^ 32 * (checkW a v).toNat ||| v.toNat = 2 ^ 32 * (checkW a v).toNat + v.toNat from (Nat.two_pow_add_eq_or_of_lt (by omega) _).symm]
theorem low32 (x : BitVec 64) : IntKind.u32.wrap ((x.toNat : Int).tmod 4294967296) = ((x.setWidth 32).toNat : Int) := by
  rw [Int.tmod_eq_emod_of_nonneg (by omega), wrap_u32 (by omega) (by omega), BitVec.toNat_setWidth]; omega
end Go.Wk
set_option linter.unusedVariables false
set_option linter.unusedSimpArgs false
namespace Go.Wk
open Go
/-! ### bit by bit -/
def one (b : Bool) : BitVec 32 := if b then 1 else 0
end Go.Wk
set_option linter.unusedVariables false
set_option linter.unusedSimpArgs false
namespace Go.Wk
open Go
theorem le_append : ∀ (n m u v : Nat), u < 256 ^ n → le n u ++ le m v = le (n + m) (u + 256 ^ n * v)
  | 0, m, u, v, h => by
    have : u = 0 := by simpa using h
    subst this; simp [le]
  | n + 1, m, u, v, h => by
    rw [show n + 1 + m = (n + m) + 1 by omega]
    simp only [le, List.cons_append]
    have h1 : u / 256 < 256 ^ n := by rw [Nat.pow_succ] at h; exact Nat.div_lt_of_lt_mul (by rw [Nat.mul_comm]; exact h)
    rw [le_append n m (u / 256) v h1]
    have e : u + 256 ^ (n + 1) * v = u + 256 * (256 ^ n * v) := by rw [Nat.pow_succ, Nat.mul_comm (256 ^ n) 256, Nat.mul_assoc]
    rw [e]
    congr 1
    · rw [← ofNat_mod (u + 256 * (256 ^ n * v)), ← ofNat_mod u]; congr 1; omega
    · congr 1; omega
end Go.Wk
set_option linter.unusedVariables false
set_option linter.unusedSimpArgs false
namespace Go.Wk
open Go
end Go.Wk
set_option linter.unusedVariables false
set_option linter.unusedSimpArgs false
namespace Go.Wk
open Go
end Go.Wk
set_option linter.unusedVariables false
set_option linter.unusedSimpArgs false
namespace Go.Proofs.YthhkbbodhghmcaaGreatDoor
open Go Go.Wk
theorem str_get {s : ByteArray} {k : Nat} {c : UInt8} (h : s.data.toList[k]? = some c) : s[((k : Int)).toNat]? = some c := by
  rw [Int.toNat_natCast]
  have hk : k < s.data.size := by
    rcases Nat.lt_or_ge k s.data.size with h1 | h1
    · exact h1
    · rw [List.getElem?_eq_none (by simpa using h1)] at h; cases h
  rw [getElem?_pos s k hk]
  simp [List.getElem?_eq_getElem (show k < s.data.toList.length by simpa using hk)] at h
  rw [← h]; rfl
theorem List.take_succ_of_get {α : Type} {l : List α} {k : Nat} {c : α} (h : l[k]? = some c) : l.take (k + 1) = l.take k ++ [c] := by rw [List.take_add_one, h]; rfl
theorem letters_p (v : Value) (l : List UInt8) (s : ByteArray) (w : World) (ho : w.ownsRow 0 5 1 v l.length (l.map bv)) (hlen : l.length + s.data.toList.length ≤ 140737488355328) :
    RowUpd Tryz.prog 93 [v, .string s] v 5 1 l.length (l.map bv) (l ++ s.data.toList).length ((l ++ s.data.toList).map bv) w := by
 refine enter (feet [brow 5 v l]) [brow 5 v l] Tryz.func93 rfl Tryz.ntmps93 rfl (Rep.one ho) ?_
 have hs : s.size = s.data.toList.length := Array.length_toList.symm
 simp only [envOf]
 refine tR ?_
 refine tA rfl rfl ?_
 refine tE ?_
 refine At.seq ?_
 refine tR ?_
 refine tA rfl rfl ?_
 refine tE ?_
 refine At.block ?_
 skip
 refine At.loop (σ := Nat × Value) (fun s' => s'.1 ≤ s.data.toList.length) (fun s' => [(0, s'.2), (1, .string s), (5, .int .i64 (s'.1 : Int))]) (fun s' => [brow 5 s'.2 (l ++ s.data.toList.take s'.1)]) (fun s' => s.data.toList.length - s'.1) (0, v) (Nat.zero_le _) (Sub.cons rfl (Sub.cons rfl (Sub.cons rfl Sub.nil))) (by simp) ?_
 intro s' hs
 obtain ⟨k, vk⟩ := s'
 dsimp only at hs ⊢
 refine At.seq ?_
 refine tR ?_
 refine tM rfl rfl ?_
 refine tM rfl rfl ?_
 refine At.val (Val.lenStr Tryz.underlying9 rfl) rfl rfl rfl ?_
 refine At.val (Val.bin rfl rfl rfl) rfl rfl rfl ?_
 refine tE ?_
 refine At.cond rfl (fun h1 => ?_) (fun h1 => ?_)
 ·skip
  have hk : k < s.data.toList.length := by have := h1; simp at this; omega
  obtain ⟨c, hc⟩ : ∃ c, s.data.toList[k]? = some c := ⟨_, List.getElem?_eq_getElem hk⟩
  refine At.skipC ?_
  refine At.thenN ?_
  refine At.seq ?_
  refine At.block ?_
  refine At.region ?_
  refine tM rfl rfl ?_
  refine tM rfl rfl ?_
  refine tM rfl rfl ?_
  refine At.val (Val.indexStr Tryz.underlying9 rfl rfl (c := c) (by omega) (str_get hc)) rfl rfl rfl ?_
  refine At.buildSl (fun a ha => by simp only [List.map_toArray, List.map_cons, List.map_nil, ha.eval (x := (.tmp 15)) rfl]; try rfl) (bs_59_1 _ ) rfl (fun b2 => ?_)
  refine At.append (i := 1) (sz := 1) (by_ := 1) Tryz.underlying59 info_5 rfl rfl rfl rfl rfl rfl rfl rfl rfl (fun w hw j u hj => by rw [Nat.zero_add]; exact ((hw.blk (i := 0) rfl).cell j).trans hj) (by simp [Value.oneCell']) (by rw [List.length_append, List.length_take]; omega) (by rw [List.length_append, List.length_take]; omega) rfl (fun v3 => ?_)
  simp only [sc0, scS]
  refine At.drop 0 ?_
  simp only [ec0, ecS]
  refine tA rfl rfl ?_
  refine At.nil ?_
  rw [brow_snoc, List.append_assoc, ← List.take_succ_of_get hc]
  refine At.blkN ?_
  refine At.thenN ?_
  refine At.region ?_
  refine tM rfl rfl ?_
  refine At.val (Val.bin rfl rfl rfl) rfl rfl rfl ?_
  refine tA rfl rfl ?_
  refine tE ?_
  exact At.again (k + 1, v3) (show k + 1 ≤ _ by omega) (by dsimp only; omega) (Sub.cons rfl (Sub.cons rfl (Sub.cons (congrArg (fun z => some (Value.int IntKind.i64 z)) (wrap_i64 (by omega) (by omega))) Sub.nil))) (List.Perm.refl _)
 ·skip
  have hk : k = s.data.toList.length := by have := h1; simp at this; omega
  refine At.exitC ?_
  refine At.thenX ?_
  refine At.thenX ?_
  refine At.blkX ?_
  refine At.thenN ?_
  refine tR ?_
  refine tM rfl rfl ?_
  refine tA rfl rfl ?_
  refine tE ?_
  refine At.retC ?_
  refine At.ret1 (.inl rfl) rfl rfl rfl (fun w hw => ?_)
  exact ⟨vk, rfl, by have := hw; rw [hk, List.take_length] at this; exact this⟩
end Go.Proofs.YthhkbbodhghmcaaGreatDoor
set_option linter.unusedVariables false
set_option linter.unusedSimpArgs false
namespace Go.Proofs.YthhkbbodhghmcaaGreatDoor
open Go Go.Wk
def loOf : Option (Int × Int) → Int
  | none => 5
  | some c => c.1 + c.2 + 1
def loAt (L : List (Int × Int)) (k : Nat) : Int := loOf (L.take k).getLast?
theorem loAt_0 (L : List (Int × Int)) : loAt L 0 = 5 := rfl
theorem loAt_succ {L : List (Int × Int)} {k : Nat} {c : Int × Int} (h : L[k]? = some c) : loAt L (k + 1) = c.1 + c.2 + 1 := by
  unfold loAt; rw [List.take_succ_of_get h]; simp [loOf]
def OkSp (lo : Int) (c : Int × Int) : Prop := lo ≤ c.1 ∧ c.1 ≤ 1023 ∧ 1 ≤ c.2 ∧ c.1 + c.2 ≤ 1024
instance (lo : Int) (c : Int × Int) : Decidable (OkSp lo c) := by unfold OkSp; infer_instance
def SpK (L : List (Int × Int)) (k : Nat) : Prop := ∀ j c, j < k → L[j]? = some c → OkSp (loAt L j) c
theorem spK_0 (L : List (Int × Int)) : SpK L 0 := fun j c h => absurd h (Nat.not_lt_zero _)
theorem spK_succ {L : List (Int × Int)} {k : Nat} {c : Int × Int} (h : SpK L k) (hc : L[k]? = some c) (ho : OkSp (loAt L k) c) : SpK L (k + 1) := fun j d hj hd => by
  rcases Nat.lt_or_ge j k with h1 | h1
  · exact h j d h1 hd
  · obtain rfl : k = j := by omega
    rw [hc] at hd; obtain rfl := Option.some.inj hd; exact ho
theorem lo_bd {L : List (Int × Int)} : ∀ {k : Nat}, SpK L k → k ≤ L.length → 5 ≤ loAt L k ∧ loAt L k ≤ 1025
  | 0, _, _ => by rw [loAt_0]; omega
  | k + 1, h, hk => by
    have ih := lo_bd (k := k) (fun j c hj hc => h j c (by omega) hc) (by omega)
    have hg : L[k]? = some (L[k]'(by omega)) := List.getElem?_eq_getElem (by omega)
    have ho := h k _ (by omega) hg
    rw [loAt_succ hg]
    unfold OkSp at ho; omega
def GoodSv (t : BitVec 32) (L : List (Int × Int)) : Prop := t.toNat ≠ 0 ∧ L.length ≤ 249 ∧ SpK L L.length
noncomputable instance (t : BitVec 32) (L : List (Int × Int)) : Decidable (GoodSv t L) := Classical.propDecidable _
theorem spK_no {L : List (Int × Int)} {t : BitVec 32} {k : Nat} {c : Int × Int} (hc : L[k]? = some c) (ho : ¬ OkSp (loAt L k) c) : ¬ GoodSv t L := fun g => ho (g.2.2 k c (List.getElem?_eq_some_iff.1 hc).1 hc)
def nxR (L : List (Int × Int)) (k : Nat) : Int := if k = 0 then 0 else loAt L k
theorem nxR_0 (L : List (Int × Int)) : nxR L 0 = 0 := rfl
theorem nxR_is (L : List (Int × Int)) (k : Nat) : (k = 0 ∧ nxR L k = 0 ∧ loAt L k = 5) ∨ (¬ k = 0 ∧ nxR L k = loAt L k) := by
  by_cases h : k = 0
  · subst h; exact .inl ⟨rfl, rfl, rfl⟩
  · exact .inr ⟨h, if_neg h⟩
theorem nxR_succ {L : List (Int × Int)} {k : Nat} {c : Int × Int} (h : L[k]? = some c) : nxR L (k + 1) = c.1 + c.2 + 1 := by unfold nxR; rw [if_neg (by omega), loAt_succ h]
theorem sp_eq {L : List (Int × Int)} {k : Nat} {a b : Int × Int} (h1 : L[(k : Int).toNat]? = some a) (h2 : L[k]? = some b) : a = b := by
  rw [Int.toNat_natCast, h2] at h1; exact (Option.some.inj h1).symm
theorem goodSv_p (t : BitVec 32) (v : Value) (L : List (Int × Int)) (w : World) (hv : RdS w v L) (hlen : L.length ≤ 8796093022144) :
    PureC Tryz.prog 87 [.agg #[b32 t, v]] (.bool (decide (GoodSv t L))) w := by
 refine enter0 Tryz.func87 rfl Tryz.ntmps87 rfl ?_
 simp only [envOf]
 refine tR ?_
 refine At.box rfl rfl rfl (fun b1 => ?_)
 refine tA rfl rfl ?_
 refine tE ?_
 refine At.seq ?_
 refine tR ?_
 refine At.weaken [(0, _), (1, _), (2, _)] (Sub.cons rfl (Sub.cons rfl (Sub.cons rfl Sub.nil))) ?_
 refine At.boolMeet 9 14 (decide (t.toNat = 0 ∨ 249 < L.length)) ?_ ?_
 ·skip
  simp only [List.take_succ_cons, List.take_zero]
  refine At.val (Val.field 0 rfl fo_90_0 rfl) rfl rfl rfl ?_
  refine At.val (Val.load (i := 0) Tryz.isAgg76 rfl rfl rfl) rfl rfl rfl ?_
  refine At.val (Val.bin rfl rfl rfl) rfl rfl rfl ?_
  refine tM rfl rfl ?_
  refine At.split (t := 9) rfl (fun h2 => ?_) (fun h2 => ?_)
  ·skip
   try simp only [vN_T, vN_F, nmE_T, nmE_F, wI_T, wI_F, data_T, data_F, ino_T, ino_F, notT, notF, bneT, bneF, beqT, beqF, decT, decF] at h2
   refine At.no rfl rfl rfl rfl ?_
   refine At.no rfl rfl rfl rfl ?_
   refine At.no rfl rfl rfl rfl ?_
   refine At.no rfl rfl rfl rfl ?_
   refine At.val (Val.pickT rfl rfl) rfl rfl rfl ?_
   refine At.nil ?_
   exact At.boolEnd rfl (by first | rfl | exact (decide_eq_true (by omega)).symm | exact (decide_eq_false (by omega)).symm | (apply Bool.eq_iff_iff.2; simp only [decide_eq_true_eq, beq_iff_eq, bne_iff_ne, ne_eq, wI_T, data_T, ino_T, vN_T, nmE_T, Bool.not_eq_true', wI_F, data_F, ino_F, vN_F, nmE_F, decide_eq_false_iff_not]; omega)) (by repeat (first | exact Sub.nil | refine Sub.cons rfl ?_))
  ·skip
   try simp only [vN_T, vN_F, nmE_T, nmE_F, wI_T, wI_F, data_T, data_F, ino_T, ino_F, notT, notF, bneT, bneF, beqT, beqF, decT, decF] at h2
   refine At.yes rfl rfl ?_
   refine At.val (Val.field 1 rfl fo_90_1 rfl) rfl rfl rfl ?_
   refine At.yes rfl rfl ?_
   refine At.val (Val.load (i := 0) Tryz.isAgg35 rfl rfl rfl) rfl rfl rfl ?_
   refine At.yes rfl rfl ?_
   refine At.val (Val.lenRd hv Tryz.underlying35 rfl) rfl rfl rfl ?_
   refine At.yes rfl rfl ?_
   refine At.val (Val.bin rfl rfl rfl) rfl rfl rfl ?_
   refine At.val (Val.pickF rfl rfl) rfl rfl rfl ?_
   refine At.nil ?_
   exact At.boolEnd rfl (by first | rfl | exact (decide_eq_true (by omega)).symm | exact (decide_eq_false (by omega)).symm | (apply Bool.eq_iff_iff.2; simp only [decide_eq_true_eq, beq_iff_eq, bne_iff_ne, ne_eq, wI_T, data_T, ino_T, vN_T, nmE_T, Bool.not_eq_true', wI_F, data_F, ino_F, vN_F, nmE_F, decide_eq_false_iff_not]; omega)) (by repeat (first | exact Sub.nil | refine Sub.cons rfl ?_))
 ·skip
  simp only [List.drop_succ_cons, List.drop_zero]
  refine tE ?_
  refine At.cond rfl (fun h3 => ?_) (fun h3 => ?_)
  ·skip
   try simp only [vN_T, vN_F, nmE_T, nmE_F, wI_T, wI_F, data_T, data_F, ino_T, ino_F, notT, notF, bneT, bneF, beqT, beqF, decT, decF] at h3
   refine tR ?_
   refine tA rfl rfl ?_
   refine tE ?_
   refine At.retC ?_
   refine At.thenR ?_
   refine At.ret1 (.inl rfl) rfl rfl rfl (fun w hw => ?_)
   exact ⟨retB (decide_eq_false (fun g => by have h1 := g.1; have h2 := g.2.1; omega)).symm, hw.mod⟩
  ·skip
   try simp only [vN_T, vN_F, nmE_T, nmE_F, wI_T, wI_F, data_T, data_F, ino_T, ino_F, notT, notF, bneT, bneF, beqT, beqF, decT, decF] at h3
   refine At.skipC ?_
   refine At.thenN ?_
   refine tR ?_
   refine tA rfl rfl ?_
   refine tE ?_
   refine At.seq ?_
   refine tR ?_
   refine At.val (Val.field 1 rfl fo_90_1 rfl) rfl rfl rfl ?_
   refine At.val (Val.load (i := 0) Tryz.isAgg35 rfl rfl rfl) rfl rfl rfl ?_
   refine At.val (Val.lenRd hv Tryz.underlying35 rfl) rfl rfl rfl ?_
   refine tM rfl rfl ?_
   refine tE ?_
   refine At.block ?_
   skip
   refine At.drop 0 ?_
   simp only [ec0, ecS]
   refine At.loop (σ := Nat) (fun k => k ≤ L.length ∧ SpK L k) (fun k => [(16, v), (17, .int .i64 (L.length : Int)), (18, .int .i64 (k : Int)), (3, .int .i64 (loAt L k - 2))]) (fun k => []) (fun k => L.length - k) 0 ⟨Nat.zero_le _, spK_0 L⟩ (Sub.cons rfl (Sub.cons rfl (Sub.cons rfl (Sub.cons (congrArg (fun z => some (Value.int IntKind.i64 z)) (by rw [loAt_0]; rfl)) Sub.nil)))) (List.Perm.refl _) ?_
   intro k hs
   refine tR ?_
   refine At.val (Val.bin rfl rfl rfl) rfl rfl rfl ?_
   refine tE ?_
   refine At.seq ?_
   refine At.cond rfl (fun h4 => ?_) (fun h4 => ?_)
   ·skip
    try simp only [vN_T, vN_F, nmE_T, nmE_F, wI_T, wI_F, data_T, data_F, ino_T, ino_F, notT, notF, bneT, bneF, beqT, beqF, decT, decF] at h4
    have hk : k < L.length := by omega
    have hlo := lo_bd hs.2 hs.1
    refine At.skipC ?_
    refine At.thenN ?_
    refine At.seq ?_
    refine At.block ?_
    refine tR ?_
    refine At.idxS hv Tryz.underlying35 Tryz.sizeOf100 rfl rfl (by omega) (by omega) rfl rfl (fun b5 o6 q7 hq8 hc9 hd10 => ?_)
    refine At.val (Val.loadSpan Tryz.isAgg100 Tryz.sizeOf100 rfl hc9 hd10 (fun h => h)) rfl rfl rfl ?_
    refine At.alloc Tryz.zeroValue100 rfl rfl (fun b11 => ?_)
    refine At.storeAll (i := 0) Tryz.sizeOf100 rfl rfl rfl (by simp [Value.oneCell']) rfl rfl ?_
    simp only [sc0, scS]
    refine At.nil ?_
    have hqk := hq8
    rw [Int.toNat_natCast] at hqk
    refine At.thenN ?_
    refine At.seq ?_
    refine tR ?_
    refine At.weaken [(16, _), (17, _), (18, _), (3, _), (19, _), (20, _), (21, _), (5, _)] (Sub.cons rfl (Sub.cons rfl (Sub.cons rfl (Sub.cons rfl (Sub.cons rfl (Sub.cons rfl (Sub.cons rfl (Sub.cons rfl Sub.nil)))))))) ?_
    refine At.boolMeet 23 44 (decide (¬ OkSp (loAt L k) q7)) ?_ ?_
    ·skip
     simp only [List.take_succ_cons, List.take_zero]
     refine At.val (Val.field 1 rfl fo_100_1 rfl) rfl rfl rfl ?_
     refine At.val (Val.load (i := 0) Tryz.isAgg3 rfl rfl rfl) rfl rfl rfl ?_
     refine At.val (Val.bin rfl rfl rfl) rfl rfl rfl ?_
     refine tM rfl rfl ?_
     refine At.split (t := 25) rfl (fun h12 => ?_) (fun h12 => ?_)
     ·skip
      try simp only [vN_T, vN_F, nmE_T, nmE_F, wI_T, wI_F, data_T, data_F, ino_T, ino_F, notT, notF, bneT, bneF, beqT, beqF, decT, decF] at h12
      refine At.no rfl rfl rfl rfl ?_
      refine At.no rfl rfl rfl rfl ?_
      refine At.no rfl rfl rfl rfl ?_
      refine At.no rfl rfl rfl rfl ?_
      refine At.no rfl rfl rfl rfl ?_
      refine At.val (Val.pickT rfl rfl) rfl rfl rfl ?_
      refine tM rfl rfl ?_
      refine At.no rfl rfl rfl rfl ?_
      refine At.no rfl rfl rfl rfl ?_
      refine At.no rfl rfl rfl rfl ?_
      refine At.val (Val.pickT rfl rfl) rfl rfl rfl ?_
      refine tM rfl rfl ?_
      refine At.no rfl rfl rfl rfl ?_
      refine At.no rfl rfl rfl rfl ?_
      refine At.no rfl rfl rfl rfl ?_
      refine At.no rfl rfl rfl rfl ?_
      refine At.no rfl rfl rfl rfl ?_
      refine At.no rfl rfl rfl rfl ?_
      refine At.val (Val.pickT rfl rfl) rfl rfl rfl ?_
      refine At.nil ?_
      exact At.boolEnd rfl (by first | exact (decide_eq_true (show ¬ OkSp (loAt L k) q7 by unfold OkSp; omega)).symm | exact (decide_eq_false (show ¬ ¬ OkSp (loAt L k) q7 by unfold OkSp; omega)).symm | (apply Bool.eq_iff_iff.2; simp only [decide_eq_true_eq, Bool.not_eq_true', decide_eq_false_iff_not, data_F, data_T]; unfold OkSp; omega)) (by repeat (first | exact Sub.nil | refine Sub.cons rfl ?_))
     ·skip
      try simp only [vN_T, vN_F, nmE_T, nmE_F, wI_T, wI_F, data_T, data_F, ino_T, ino_F, notT, notF, bneT, bneF, beqT, beqF, decT, decF] at h12
      refine At.yes rfl rfl ?_
      refine At.val (Val.field 0 rfl fo_100_0 rfl) rfl rfl rfl ?_
      refine At.yes rfl rfl ?_
      refine At.val (Val.load (i := 0) Tryz.isAgg3 rfl rfl rfl) rfl rfl rfl ?_
      refine At.yes rfl rfl ?_
      refine tM rfl rfl ?_
      refine At.yes rfl rfl ?_
      first | refine At.val (Val.addI rfl rfl (by omega) (by omega)) rfl rfl rfl ?_ | refine At.val (Val.bin rfl rfl rfl) rfl rfl rfl ?_
      refine At.yes rfl rfl ?_
      refine At.val (Val.bin rfl rfl rfl) rfl rfl rfl ?_
      refine At.val (Val.pickF rfl rfl) rfl rfl rfl ?_
      refine tM rfl rfl ?_
      refine At.split (t := 32) rfl (fun h13 => ?_) (fun h13 => ?_)
      ·skip
       try simp only [vN_T, vN_F, nmE_T, nmE_F, wI_T, wI_F, data_T, data_F, ino_T, ino_F, notT, notF, bneT, bneF, beqT, beqF, decT, decF] at h13
       refine At.no rfl rfl rfl rfl ?_
       refine At.no rfl rfl rfl rfl ?_
       refine At.no rfl rfl rfl rfl ?_
       refine At.val (Val.pickT rfl rfl) rfl rfl rfl ?_
       refine tM rfl rfl ?_
       refine At.no rfl rfl rfl rfl ?_
       refine At.no rfl rfl rfl rfl ?_
       refine At.no rfl rfl rfl rfl ?_
       refine At.no rfl rfl rfl rfl ?_
       refine At.no rfl rfl rfl rfl ?_
       refine At.no rfl rfl rfl rfl ?_
       refine At.val (Val.pickT rfl rfl) rfl rfl rfl ?_
       refine At.nil ?_
       exact At.boolEnd rfl (by first | exact (decide_eq_true (show ¬ OkSp (loAt L k) q7 by unfold OkSp; omega)).symm | exact (decide_eq_false (show ¬ ¬ OkSp (loAt L k) q7 by unfold OkSp; omega)).symm | (apply Bool.eq_iff_iff.2; simp only [decide_eq_true_eq, Bool.not_eq_true', decide_eq_false_iff_not, data_F, data_T]; unfold OkSp; omega)) (by repeat (first | exact Sub.nil | refine Sub.cons rfl ?_))
      ·skip
       try simp only [vN_T, vN_F, nmE_T, nmE_F, wI_T, wI_F, data_T, data_F, ino_T, ino_F, notT, notF, bneT, bneF, beqT, beqF, decT, decF] at h13
       refine At.yes rfl rfl ?_
       refine At.val (Val.field 0 rfl fo_100_0 rfl) rfl rfl rfl ?_
       refine At.yes rfl rfl ?_
       refine At.val (Val.load (i := 0) Tryz.isAgg3 rfl rfl rfl) rfl rfl rfl ?_
       refine At.yes rfl rfl ?_
       refine At.val (Val.bin rfl rfl rfl) rfl rfl rfl ?_
       refine At.val (Val.pickF rfl rfl) rfl rfl rfl ?_
       refine tM rfl rfl ?_
       refine At.split (t := 37) rfl (fun h14 => ?_) (fun h14 => ?_)
       ·skip
        try simp only [vN_T, vN_F, nmE_T, nmE_F, wI_T, wI_F, data_T, data_F, ino_T, ino_F, notT, notF, bneT, bneF, beqT, beqF, decT, decF] at h14
        refine At.no rfl rfl rfl rfl ?_
        refine At.no rfl rfl rfl rfl ?_
        refine At.no rfl rfl rfl rfl ?_
        refine At.no rfl rfl rfl rfl ?_
        refine At.no rfl rfl rfl rfl ?_
        refine At.no rfl rfl rfl rfl ?_
        refine At.val (Val.pickT rfl rfl) rfl rfl rfl ?_
        refine At.nil ?_
        exact At.boolEnd rfl (by first | exact (decide_eq_true (show ¬ OkSp (loAt L k) q7 by unfold OkSp; omega)).symm | exact (decide_eq_false (show ¬ ¬ OkSp (loAt L k) q7 by unfold OkSp; omega)).symm | (apply Bool.eq_iff_iff.2; simp only [decide_eq_true_eq, Bool.not_eq_true', decide_eq_false_iff_not, data_F, data_T]; unfold OkSp; omega)) (by repeat (first | exact Sub.nil | refine Sub.cons rfl ?_))
       ·skip
        try simp only [vN_T, vN_F, nmE_T, nmE_F, wI_T, wI_F, data_T, data_F, ino_T, ino_F, notT, notF, bneT, bneF, beqT, beqF, decT, decF] at h14
        refine At.yes rfl rfl ?_
        refine At.val (Val.field 1 rfl fo_100_1 rfl) rfl rfl rfl ?_
        refine At.yes rfl rfl ?_
        refine At.val (Val.load (i := 0) Tryz.isAgg3 rfl rfl rfl) rfl rfl rfl ?_
        refine At.yes rfl rfl ?_
        refine At.val (Val.field 0 rfl fo_100_0 rfl) rfl rfl rfl ?_
        refine At.yes rfl rfl ?_
        refine At.val (Val.load (i := 0) Tryz.isAgg3 rfl rfl rfl) rfl rfl rfl ?_
        refine At.yes rfl rfl ?_
        first | refine At.val (Val.subI rfl rfl (by omega) (by omega)) rfl rfl rfl ?_ | refine At.val (Val.bin rfl rfl rfl) rfl rfl rfl ?_
        refine At.yes rfl rfl ?_
        refine At.val (Val.bin rfl rfl rfl) rfl rfl rfl ?_
        refine At.val (Val.pickF rfl rfl) rfl rfl rfl ?_
        refine At.nil ?_
        exact At.boolEnd rfl (by first | exact (decide_eq_true (show ¬ OkSp (loAt L k) q7 by unfold OkSp; omega)).symm | exact (decide_eq_false (show ¬ ¬ OkSp (loAt L k) q7 by unfold OkSp; omega)).symm | (apply Bool.eq_iff_iff.2; simp only [decide_eq_true_eq, Bool.not_eq_true', decide_eq_false_iff_not, data_F, data_T]; unfold OkSp; omega)) (by repeat (first | exact Sub.nil | refine Sub.cons rfl ?_))
    ·skip
     simp only [List.drop_succ_cons, List.drop_zero]
     refine tE ?_
     refine At.cond rfl (fun h15 => ?_) (fun h15 => ?_)
     ·skip
      try simp only [vN_T, vN_F, nmE_T, nmE_F, wI_T, wI_F, data_T, data_F, ino_T, ino_F, notT, notF, bneT, bneF, beqT, beqF, decT, decF] at h15
      have hno : ¬ OkSp _ _ := h15
      refine tR ?_
      refine tA rfl rfl ?_
      refine tE ?_
      refine At.retC ?_
      refine At.thenR ?_
      refine At.blkR ?_
      refine At.thenR ?_
      refine At.thenR ?_
      refine At.blkR ?_
      refine At.thenR ?_
      refine At.ret1 (.inl rfl) rfl rfl rfl (fun w hw => ?_)
      exact ⟨retB (decide_eq_false (spK_no hqk hno)).symm, hw.mod⟩
     ·skip
      try simp only [vN_T, vN_F, nmE_T, nmE_F, wI_T, wI_F, data_T, data_F, ino_T, ino_F, notT, notF, bneT, bneF, beqT, beqF, decT, decF] at h15
      have hyes : OkSp _ _ := Classical.not_not.1 h15
      have hyes2 := hyes
      unfold OkSp at hyes2
      refine At.skipC ?_
      refine At.thenN ?_
      refine At.region ?_
      refine At.val (Val.field 0 rfl fo_100_0 rfl) rfl rfl rfl ?_
      refine At.val (Val.load (i := 0) Tryz.isAgg3 rfl rfl rfl) rfl rfl rfl ?_
      refine At.val (Val.field 1 rfl fo_100_1 rfl) rfl rfl rfl ?_
      refine At.val (Val.load (i := 0) Tryz.isAgg3 rfl rfl rfl) rfl rfl rfl ?_
      first | refine At.val (Val.addI rfl rfl (by omega) (by omega)) rfl rfl rfl ?_ | refine At.val (Val.bin rfl rfl rfl) rfl rfl rfl ?_
      first | refine At.val (Val.subI rfl rfl (by omega) (by omega)) rfl rfl rfl ?_ | refine At.val (Val.bin rfl rfl rfl) rfl rfl rfl ?_
      refine tA rfl rfl ?_
      refine At.nil ?_
      refine At.blkN ?_
      refine At.thenN ?_
      refine At.region ?_
      first | refine At.val (Val.addI rfl rfl (by omega) (by omega)) rfl rfl rfl ?_ | refine At.val (Val.bin rfl rfl rfl) rfl rfl rfl ?_
      refine tM rfl rfl ?_
      refine tE ?_
      refine At.drop 0 ?_
      simp only [ec0, ecS]
      exact At.again (k + 1) ⟨by omega, spK_succ hs.2 hqk hyes⟩ (by omega) (Sub.cons rfl (Sub.cons rfl (Sub.cons (congrArg (fun z => some (Value.int IntKind.i64 z)) (by omega)) (Sub.cons (congrArg (fun z => some (Value.int IntKind.i64 z)) (by rw [loAt_succ hqk]; omega)) Sub.nil)))) (List.Perm.refl _)
   ·skip
    try simp only [vN_T, vN_F, nmE_T, nmE_F, wI_T, wI_F, data_T, data_F, ino_T, ino_F, notT, notF, bneT, bneF, beqT, beqF, decT, decF] at h4
    obtain rfl : k = L.length := by omega
    refine At.exitC ?_
    refine At.thenX ?_
    refine At.thenX ?_
    refine At.blkX ?_
    refine At.thenN ?_
    refine tR ?_
    refine tA rfl rfl ?_
    refine tE ?_
    refine At.retC ?_
    refine At.ret1 (.inl rfl) rfl rfl rfl (fun w hw => ?_)
    exact ⟨retB (decide_eq_true ⟨by omega, by omega, hs.2⟩).symm, hw.mod⟩
theorem goodSvR_p (t : BitVec 32) (v : Value) (L : List (Int × Int)) (w : World) (hv : RdS w v L) (hlen : L.length ≤ 8796093022144) :
    PureC Tryz.prog 92 [.agg #[b32 t, v]] (.bool (decide (GoodSv t L))) w := by
 refine enter0 Tryz.func92 rfl Tryz.ntmps92 rfl ?_
 simp only [envOf]
 refine tR ?_
 refine At.box rfl rfl rfl (fun b1 => ?_)
 refine tA rfl rfl ?_
 refine tE ?_
 refine At.seq ?_
 refine tR ?_
 refine At.weaken [(0, _), (1, _), (2, _)] (Sub.cons rfl (Sub.cons rfl (Sub.cons rfl Sub.nil))) ?_
 refine At.boolMeet 9 14 (decide (t.toNat = 0 ∨ 249 < L.length)) ?_ ?_
 ·skip
  simp only [List.take_succ_cons, List.take_zero]
  refine At.val (Val.field 0 rfl fo_90_0 rfl) rfl rfl rfl ?_
  refine At.val (Val.load (i := 0) Tryz.isAgg76 rfl rfl rfl) rfl rfl rfl ?_
  refine At.val (Val.bin rfl rfl rfl) rfl rfl rfl ?_
  refine tM rfl rfl ?_
  refine At.split (t := 9) rfl (fun h2 => ?_) (fun h2 => ?_)
  ·skip
   try simp only [vN_T, vN_F, nmE_T, nmE_F, wI_T, wI_F, data_T, data_F, ino_T, ino_F, notT, notF, bneT, bneF, beqT, beqF, decT, decF] at h2
   refine At.no rfl rfl rfl rfl ?_
   refine At.no rfl rfl rfl rfl ?_
   refine At.no rfl rfl rfl rfl ?_
   refine At.no rfl rfl rfl rfl ?_
   refine At.val (Val.pickT rfl rfl) rfl rfl rfl ?_
   refine At.nil ?_
   exact At.boolEnd rfl (by first | rfl | exact (decide_eq_true (by omega)).symm | exact (decide_eq_false (by omega)).symm | (apply Bool.eq_iff_iff.2; simp only [decide_eq_true_eq, beq_iff_eq, bne_iff_ne, ne_eq, wI_T, data_T, ino_T, vN_T, nmE_T, Bool.not_eq_true', wI_F, data_F, ino_F, vN_F, nmE_F, decide_eq_false_iff_not]; omega)) (by repeat (first | exact Sub.nil | refine Sub.cons rfl ?_))
  ·skip
   try simp only [vN_T, vN_F, nmE_T, nmE_F, wI_T, wI_F, data_T, data_F, ino_T, ino_F, notT, notF, bneT, bneF, beqT, beqF, decT, decF] at h2
   refine At.yes rfl rfl ?_
   refine At.val (Val.field 1 rfl fo_90_1 rfl) rfl rfl rfl ?_
   refine At.yes rfl rfl ?_
   refine At.val (Val.load (i := 0) Tryz.isAgg35 rfl rfl rfl) rfl rfl rfl ?_
   refine At.yes rfl rfl ?_
   refine At.val (Val.lenRd hv Tryz.underlying35 rfl) rfl rfl rfl ?_
   refine At.yes rfl rfl ?_
   refine At.val (Val.bin rfl rfl rfl) rfl rfl rfl ?_
   refine At.val (Val.pickF rfl rfl) rfl rfl rfl ?_
   refine At.nil ?_
   exact At.boolEnd rfl (by first | rfl | exact (decide_eq_true (by omega)).symm | exact (decide_eq_false (by omega)).symm | (apply Bool.eq_iff_iff.2; simp only [decide_eq_true_eq, beq_iff_eq, bne_iff_ne, ne_eq, wI_T, data_T, ino_T, vN_T, nmE_T, Bool.not_eq_true', wI_F, data_F, ino_F, vN_F, nmE_F, decide_eq_false_iff_not]; omega)) (by repeat (first | exact Sub.nil | refine Sub.cons rfl ?_))
 ·skip
  simp only [List.drop_succ_cons, List.drop_zero]
  refine tE ?_
  refine At.cond rfl (fun h3 => ?_) (fun h3 => ?_)
  ·skip
   try simp only [vN_T, vN_F, nmE_T, nmE_F, wI_T, wI_F, data_T, data_F, ino_T, ino_F, notT, notF, bneT, bneF, beqT, beqF, decT, decF] at h3
   refine tR ?_
   refine tA rfl rfl ?_
   refine tE ?_
   refine At.retC ?_
   refine At.thenR ?_
   refine At.ret1 (.inl rfl) rfl rfl rfl (fun w hw => ?_)
   exact ⟨retB (decide_eq_false (fun g => by have h1 := g.1; have h2 := g.2.1; omega)).symm, hw.mod⟩
  ·skip
   try simp only [vN_T, vN_F, nmE_T, nmE_F, wI_T, wI_F, data_T, data_F, ino_T, ino_F, notT, notF, bneT, bneF, beqT, beqF, decT, decF] at h3
   refine At.skipC ?_
   refine At.thenN ?_
   refine tR ?_
   refine tA rfl rfl ?_
   refine tE ?_
   refine At.seq ?_
   refine tR ?_
   refine tA rfl rfl ?_
   refine tE ?_
   refine At.block ?_
   skip
   refine At.loop (σ := Nat) (fun k => k ≤ L.length ∧ SpK L k) (fun k => [(1, .pointer (some ⟨b1, 0, none⟩)), (3, .int .i64 (nxR L k)), (4, .int .i64 (k : Int))]) (fun k => [blk b1 90 ([b32 t, v])]) (fun k => L.length - k) 0 ⟨Nat.zero_le _, spK_0 L⟩ (Sub.cons rfl (Sub.cons (congrArg (fun z => some (Value.int IntKind.i64 z)) (by rw [nxR_0])) (Sub.cons rfl Sub.nil))) (List.Perm.refl _) ?_
   intro k hs
   refine At.seq ?_
   refine tR ?_
   refine tM rfl rfl ?_
   refine At.val (Val.field 1 rfl fo_90_1 rfl) rfl rfl rfl ?_
   refine At.val (Val.load (i := 0) Tryz.isAgg35 rfl rfl rfl) rfl rfl rfl ?_
   refine At.val (Val.lenRd hv Tryz.underlying35 rfl) rfl rfl rfl ?_
   refine At.val (Val.bin rfl rfl rfl) rfl rfl rfl ?_
   refine tE ?_
   refine At.cond rfl (fun h4 => ?_) (fun h4 => ?_)
   ·skip
    try simp only [vN_T, vN_F, nmE_T, nmE_F, wI_T, wI_F, data_T, data_F, ino_T, ino_F, notT, notF, bneT, bneF, beqT, beqF, decT, decF] at h4
    have hk : k < L.length := by omega
    have hlo := lo_bd hs.2 hs.1
    have hnx := nxR_is L k
    refine At.skipC ?_
    refine At.thenN ?_
    refine At.seq ?_
    refine At.block ?_
    refine tR ?_
    refine At.val (Val.field 1 rfl fo_90_1 rfl) rfl rfl rfl ?_
    refine At.val (Val.load (i := 0) Tryz.isAgg35 rfl rfl rfl) rfl rfl rfl ?_
    refine tM rfl rfl ?_
    refine At.idxS hv Tryz.underlying35 Tryz.sizeOf100 rfl rfl (by omega) (by omega) rfl rfl (fun b5 o6 q7 hq8 hc9 hd10 => ?_)
    refine At.val (Val.loadSpan Tryz.isAgg100 Tryz.sizeOf100 rfl hc9 hd10 (fun h => h)) rfl rfl rfl ?_
    refine At.alloc Tryz.zeroValue100 rfl rfl (fun b11 => ?_)
    refine At.storeAll (i := 0) Tryz.sizeOf100 rfl rfl rfl (by simp [Value.oneCell']) rfl rfl ?_
    simp only [sc0, scS]
    refine At.nil ?_
    have hqk := hq8
    rw [Int.toNat_natCast] at hqk
    refine At.thenN ?_
    refine At.seq ?_
    refine tR ?_
    refine At.weaken [(1, _), (3, _), (4, _), (15, _), (16, _), (17, _), (18, _), (19, _), (22, _), (23, _), (24, _), (25, _), (26, _), (5, _)] (Sub.cons rfl (Sub.cons rfl (Sub.cons rfl (Sub.cons rfl (Sub.cons rfl (Sub.cons rfl (Sub.cons rfl (Sub.cons rfl (Sub.cons rfl (Sub.cons rfl (Sub.cons rfl (Sub.cons rfl (Sub.cons rfl (Sub.cons rfl Sub.nil)))))))))))))) ?_
    refine At.boolMeet 30 56 (decide (¬ OkSp (loAt L k) q7)) ?_ ?_
    ·skip
     simp only [List.take_succ_cons, List.take_zero]
     refine At.val (Val.field 0 rfl fo_100_0 rfl) rfl rfl rfl ?_
     refine At.val (Val.load (i := 0) Tryz.isAgg3 rfl rfl rfl) rfl rfl rfl ?_
     refine tM rfl rfl ?_
     refine At.val (Val.bin rfl rfl rfl) rfl rfl rfl ?_
     refine tM rfl rfl ?_
     refine At.split (t := 31) rfl (fun h12 => ?_) (fun h12 => ?_)
     ·skip
      try simp only [vN_T, vN_F, nmE_T, nmE_F, wI_T, wI_F, data_T, data_F, ino_T, ino_F, notT, notF, bneT, bneF, beqT, beqF, decT, decF] at h12
      refine At.no rfl rfl rfl rfl ?_
      refine At.no rfl rfl rfl rfl ?_
      refine At.no rfl rfl rfl rfl ?_
      refine At.no rfl rfl rfl rfl ?_
      refine At.val (Val.pickT rfl rfl) rfl rfl rfl ?_
      refine tM rfl rfl ?_
      refine At.no rfl rfl rfl rfl ?_
      refine At.no rfl rfl rfl rfl ?_
      refine At.no rfl rfl rfl rfl ?_
      refine At.val (Val.pickT rfl rfl) rfl rfl rfl ?_
      refine tM rfl rfl ?_
      refine At.no rfl rfl rfl rfl ?_
      refine At.no rfl rfl rfl rfl ?_
      refine At.no rfl rfl rfl rfl ?_
      refine At.val (Val.pickT rfl rfl) rfl rfl rfl ?_
      refine tM rfl rfl ?_
      refine At.no rfl rfl rfl rfl ?_
      refine At.no rfl rfl rfl rfl ?_
      refine At.no rfl rfl rfl rfl ?_
      refine At.no rfl rfl rfl rfl ?_
      refine At.no rfl rfl rfl rfl ?_
      refine At.no rfl rfl rfl rfl ?_
      refine At.no rfl rfl rfl rfl ?_
      refine At.no rfl rfl rfl rfl ?_
      refine At.val (Val.pickT rfl rfl) rfl rfl rfl ?_
      refine At.nil ?_
      exact At.boolEnd rfl (by first | exact (decide_eq_true (show ¬ OkSp (loAt L k) q7 by unfold OkSp; omega)).symm | exact (decide_eq_false (show ¬ ¬ OkSp (loAt L k) q7 by unfold OkSp; omega)).symm | (apply Bool.eq_iff_iff.2; simp only [decide_eq_true_eq, Bool.not_eq_true', decide_eq_false_iff_not, data_F, data_T]; unfold OkSp; omega)) (by repeat (first | exact Sub.nil | refine Sub.cons rfl ?_))
     ·skip
      try simp only [vN_T, vN_F, nmE_T, nmE_F, wI_T, wI_F, data_T, data_F, ino_T, ino_F, notT, notF, bneT, bneF, beqT, beqF, decT, decF] at h12
      refine At.yes rfl rfl ?_
      refine At.val (Val.field 0 rfl fo_100_0 rfl) rfl rfl rfl ?_
      refine At.yes rfl rfl ?_
      refine At.val (Val.load (i := 0) Tryz.isAgg3 rfl rfl rfl) rfl rfl rfl ?_
      refine At.yes rfl rfl ?_
      refine At.callP (fun w hw => dataR_p _ w) Tryz.call111 rfl rfl ?_
      refine At.yes rfl rfl ?_
      refine At.val (Val.not rfl) rfl rfl rfl ?_
      refine At.val (Val.pickF rfl rfl) rfl rfl rfl ?_
      refine tM rfl rfl ?_
      refine At.split (t := 37) rfl (fun h13 => ?_) (fun h13 => ?_)
      ·skip
       try simp only [vN_T, vN_F, nmE_T, nmE_F, wI_T, wI_F, data_T, data_F, ino_T, ino_F, notT, notF, bneT, bneF, beqT, beqF, decT, decF] at h13
       refine At.no rfl rfl rfl rfl ?_
       refine At.no rfl rfl rfl rfl ?_
       refine At.no rfl rfl rfl rfl ?_
       refine At.val (Val.pickT rfl rfl) rfl rfl rfl ?_
       refine tM rfl rfl ?_
       refine At.no rfl rfl rfl rfl ?_
       refine At.no rfl rfl rfl rfl ?_
       refine At.no rfl rfl rfl rfl ?_
       refine At.val (Val.pickT rfl rfl) rfl rfl rfl ?_
       refine tM rfl rfl ?_
       refine At.no rfl rfl rfl rfl ?_
       refine At.no rfl rfl rfl rfl ?_
       refine At.no rfl rfl rfl rfl ?_
       refine At.no rfl rfl rfl rfl ?_
       refine At.no rfl rfl rfl rfl ?_
       refine At.no rfl rfl rfl rfl ?_
       refine At.no rfl rfl rfl rfl ?_
       refine At.no rfl rfl rfl rfl ?_
       refine At.val (Val.pickT rfl rfl) rfl rfl rfl ?_
       refine At.nil ?_
       exact At.boolEnd rfl (by first | exact (decide_eq_true (show ¬ OkSp (loAt L k) q7 by unfold OkSp; omega)).symm | exact (decide_eq_false (show ¬ ¬ OkSp (loAt L k) q7 by unfold OkSp; omega)).symm | (apply Bool.eq_iff_iff.2; simp only [decide_eq_true_eq, Bool.not_eq_true', decide_eq_false_iff_not, data_F, data_T]; unfold OkSp; omega)) (by repeat (first | exact Sub.nil | refine Sub.cons rfl ?_))
      ·skip
       try simp only [vN_T, vN_F, nmE_T, nmE_F, wI_T, wI_F, data_T, data_F, ino_T, ino_F, notT, notF, bneT, bneF, beqT, beqF, decT, decF] at h13
       refine At.yes rfl rfl ?_
       refine At.val (Val.field 1 rfl fo_100_1 rfl) rfl rfl rfl ?_
       refine At.yes rfl rfl ?_
       refine At.val (Val.load (i := 0) Tryz.isAgg3 rfl rfl rfl) rfl rfl rfl ?_
       refine At.yes rfl rfl ?_
       refine At.val (Val.bin rfl rfl rfl) rfl rfl rfl ?_
       refine At.val (Val.pickF rfl rfl) rfl rfl rfl ?_
       refine tM rfl rfl ?_
       refine At.split (t := 42) rfl (fun h14 => ?_) (fun h14 => ?_)
       ·skip
        try simp only [vN_T, vN_F, nmE_T, nmE_F, wI_T, wI_F, data_T, data_F, ino_T, ino_F, notT, notF, bneT, bneF, beqT, beqF, decT, decF] at h14
        refine At.no rfl rfl rfl rfl ?_
        refine At.no rfl rfl rfl rfl ?_
        refine At.no rfl rfl rfl rfl ?_
        refine At.val (Val.pickT rfl rfl) rfl rfl rfl ?_
        refine tM rfl rfl ?_
        refine At.no rfl rfl rfl rfl ?_
        refine At.no rfl rfl rfl rfl ?_
        refine At.no rfl rfl rfl rfl ?_
        refine At.no rfl rfl rfl rfl ?_
        refine At.no rfl rfl rfl rfl ?_
        refine At.no rfl rfl rfl rfl ?_
        refine At.no rfl rfl rfl rfl ?_
        refine At.no rfl rfl rfl rfl ?_
        refine At.val (Val.pickT rfl rfl) rfl rfl rfl ?_
        refine At.nil ?_
        exact At.boolEnd rfl (by first | exact (decide_eq_true (show ¬ OkSp (loAt L k) q7 by unfold OkSp; omega)).symm | exact (decide_eq_false (show ¬ ¬ OkSp (loAt L k) q7 by unfold OkSp; omega)).symm | (apply Bool.eq_iff_iff.2; simp only [decide_eq_true_eq, Bool.not_eq_true', decide_eq_false_iff_not, data_F, data_T]; unfold OkSp; omega)) (by repeat (first | exact Sub.nil | refine Sub.cons rfl ?_))
       ·skip
        try simp only [vN_T, vN_F, nmE_T, nmE_F, wI_T, wI_F, data_T, data_F, ino_T, ino_F, notT, notF, bneT, bneF, beqT, beqF, decT, decF] at h14
        refine At.yes rfl rfl ?_
        refine At.val (Val.field 1 rfl fo_100_1 rfl) rfl rfl rfl ?_
        refine At.yes rfl rfl ?_
        refine At.val (Val.load (i := 0) Tryz.isAgg3 rfl rfl rfl) rfl rfl rfl ?_
        refine At.yes rfl rfl ?_
        refine At.val (Val.bin rfl rfl rfl) rfl rfl rfl ?_
        refine At.val (Val.pickF rfl rfl) rfl rfl rfl ?_
        refine tM rfl rfl ?_
        refine At.split (t := 47) rfl (fun h15 => ?_) (fun h15 => ?_)
        ·skip
         try simp only [vN_T, vN_F, nmE_T, nmE_F, wI_T, wI_F, data_T, data_F, ino_T, ino_F, notT, notF, bneT, bneF, beqT, beqF, decT, decF] at h15
         refine At.no rfl rfl rfl rfl ?_
         refine At.no rfl rfl rfl rfl ?_
         refine At.no rfl rfl rfl rfl ?_
         refine At.no rfl rfl rfl rfl ?_
         refine At.no rfl rfl rfl rfl ?_
         refine At.no rfl rfl rfl rfl ?_
         refine At.no rfl rfl rfl rfl ?_
         refine At.no rfl rfl rfl rfl ?_
         refine At.val (Val.pickT rfl rfl) rfl rfl rfl ?_
         refine At.nil ?_
         exact At.boolEnd rfl (by first | exact (decide_eq_true (show ¬ OkSp (loAt L k) q7 by unfold OkSp; omega)).symm | exact (decide_eq_false (show ¬ ¬ OkSp (loAt L k) q7 by unfold OkSp; omega)).symm | (apply Bool.eq_iff_iff.2; simp only [decide_eq_true_eq, Bool.not_eq_true', decide_eq_false_iff_not, data_F, data_T]; unfold OkSp; omega)) (by repeat (first | exact Sub.nil | refine Sub.cons rfl ?_))
        ·skip
         try simp only [vN_T, vN_F, nmE_T, nmE_F, wI_T, wI_F, data_T, data_F, ino_T, ino_F, notT, notF, bneT, bneF, beqT, beqF, decT, decF] at h15
         refine At.yes rfl rfl ?_
         refine At.val (Val.field 0 rfl fo_100_0 rfl) rfl rfl rfl ?_
         refine At.yes rfl rfl ?_
         refine At.val (Val.load (i := 0) Tryz.isAgg3 rfl rfl rfl) rfl rfl rfl ?_
         refine At.yes rfl rfl ?_
         refine At.val (Val.field 1 rfl fo_100_1 rfl) rfl rfl rfl ?_
         refine At.yes rfl rfl ?_
         refine At.val (Val.load (i := 0) Tryz.isAgg3 rfl rfl rfl) rfl rfl rfl ?_
         refine At.yes rfl rfl ?_
         first | refine At.val (Val.addI rfl rfl (by omega) (by omega)) rfl rfl rfl ?_ | refine At.val (Val.bin rfl rfl rfl) rfl rfl rfl ?_
         refine At.yes rfl rfl ?_
         first | refine At.val (Val.subI rfl rfl (by omega) (by omega)) rfl rfl rfl ?_ | refine At.val (Val.bin rfl rfl rfl) rfl rfl rfl ?_
         refine At.yes rfl rfl ?_
         refine At.callP (fun w hw => dataR_p _ w) Tryz.call111 rfl rfl ?_
         refine At.yes rfl rfl ?_
         refine At.val (Val.not rfl) rfl rfl rfl ?_
         refine At.val (Val.pickF rfl rfl) rfl rfl rfl ?_
         refine At.nil ?_
         exact At.boolEnd rfl (by first | exact (decide_eq_true (show ¬ OkSp (loAt L k) q7 by unfold OkSp; omega)).symm | exact (decide_eq_false (show ¬ ¬ OkSp (loAt L k) q7 by unfold OkSp; omega)).symm | (apply Bool.eq_iff_iff.2; simp only [decide_eq_true_eq, Bool.not_eq_true', decide_eq_false_iff_not, data_F, data_T]; unfold OkSp; omega)) (by repeat (first | exact Sub.nil | refine Sub.cons rfl ?_))
    ·skip
     simp only [List.drop_succ_cons, List.drop_zero]
     refine tE ?_
     refine At.cond rfl (fun h16 => ?_) (fun h16 => ?_)
     ·skip
      try simp only [vN_T, vN_F, nmE_T, nmE_F, wI_T, wI_F, data_T, data_F, ino_T, ino_F, notT, notF, bneT, bneF, beqT, beqF, decT, decF] at h16
      have hno : ¬ OkSp _ _ := h16
      refine tR ?_
      refine tA rfl rfl ?_
      refine tE ?_
      refine At.retC ?_
      refine At.thenR ?_
      refine At.blkR ?_
      refine At.thenR ?_
      refine At.thenR ?_
      refine At.blkR ?_
      refine At.thenR ?_
      refine At.ret1 (.inl rfl) rfl rfl rfl (fun w hw => ?_)
      exact ⟨retB (decide_eq_false (spK_no hqk hno)).symm, hw.mod⟩
     ·skip
      try simp only [vN_T, vN_F, nmE_T, nmE_F, wI_T, wI_F, data_T, data_F, ino_T, ino_F, notT, notF, bneT, bneF, beqT, beqF, decT, decF] at h16
      have hyes : OkSp _ _ := Classical.not_not.1 h16
      have hyes2 := hyes
      unfold OkSp at hyes2
      refine At.skipC ?_
      refine At.thenN ?_
      refine At.region ?_
      refine At.val (Val.field 0 rfl fo_100_0 rfl) rfl rfl rfl ?_
      refine At.val (Val.load (i := 0) Tryz.isAgg3 rfl rfl rfl) rfl rfl rfl ?_
      refine At.val (Val.field 1 rfl fo_100_1 rfl) rfl rfl rfl ?_
      refine At.val (Val.load (i := 0) Tryz.isAgg3 rfl rfl rfl) rfl rfl rfl ?_
      first | refine At.val (Val.addI rfl rfl (by omega) (by omega)) rfl rfl rfl ?_ | refine At.val (Val.bin rfl rfl rfl) rfl rfl rfl ?_
      first | refine At.val (Val.addI rfl rfl (by omega) (by omega)) rfl rfl rfl ?_ | refine At.val (Val.bin rfl rfl rfl) rfl rfl rfl ?_
      refine tA rfl rfl ?_
      refine At.nil ?_
      refine At.blkN ?_
      refine At.thenN ?_
      refine At.region ?_
      refine tM rfl rfl ?_
      first | refine At.val (Val.addI rfl rfl (by omega) (by omega)) rfl rfl rfl ?_ | refine At.val (Val.bin rfl rfl rfl) rfl rfl rfl ?_
      refine tA rfl rfl ?_
      refine tE ?_
      refine At.drop 0 ?_
      simp only [ec0, ecS]
      exact At.again (k + 1) ⟨by omega, spK_succ hs.2 hqk hyes⟩ (by omega) (Sub.cons rfl (Sub.cons (congrArg (fun z => some (Value.int IntKind.i64 z)) (by rw [nxR_succ hqk])) (Sub.cons (congrArg (fun z => some (Value.int IntKind.i64 z)) (by omega)) Sub.nil))) (List.Perm.refl _)
   ·skip
    try simp only [vN_T, vN_F, nmE_T, nmE_F, wI_T, wI_F, data_T, data_F, ino_T, ino_F, notT, notF, bneT, bneF, beqT, beqF, decT, decF] at h4
    obtain rfl : k = L.length := by omega
    refine At.exitC ?_
    refine At.thenX ?_
    refine At.thenX ?_
    refine At.blkX ?_
    refine At.thenN ?_
    refine tR ?_
    refine tA rfl rfl ?_
    refine tE ?_
    refine At.retC ?_
    refine At.ret1 (.inl rfl) rfl rfl rfl (fun w hw => ?_)
    exact ⟨retB (decide_eq_true ⟨by omega, by omega, hs.2⟩).symm, hw.mod⟩
end Go.Proofs.YthhkbbodhghmcaaGreatDoor
set_option linter.unusedVariables false
set_option linter.unusedSimpArgs false
namespace Go.Proofs.YthhkbbodhghmcaaGreatDoor
open Go Go.Wk
def bytesW (ws : List (BitVec 64)) : List UInt8 := ws.flatMap fun x => le 8 x.toNat
theorem bytesW_append (a b : List (BitVec 64)) : bytesW (a ++ b) = bytesW a ++ bytesW b := by simp [bytesW]
theorem bytesW_length (a : List (BitVec 64)) : (bytesW a).length = 8 * a.length := by
  induction a with
  | nil => rfl
  | cons c a ih => simp only [bytesW, List.flatMap_cons, List.length_append, List.length_cons, le_length] at *; rw [ih]; omega
theorem bytesW_snoc (a : List (BitVec 64)) (x : BitVec 64) : bytesW (a ++ [x]) = bytesW a ++ le 8 x.toNat := by rw [bytesW_append]; simp [bytesW]
def SlotWd (a : Int) : Prop := 2048 ≤ a ∧ a ≤ 18431 ∧ (a - 2048) % 8 = 0 ∧ (a - 2048) % 64 ≤ 16
instance (a : Int) : Decidable (SlotWd a) := by unfold SlotWd; infer_instance
def hasAt (L : List (Int × BitVec 64)) (a : Int) : Bool := L.any fun d => d.1 == a
def OkAt (L : List (Int × BitVec 64)) (j : Nat) : Prop := ∀ c, L[j]? = some c → SlotWd c.1 ∧ hasAt (L.take j) c.1 = false
def GoodUn (L : List (Int × BitVec 64)) : Prop := 1 ≤ L.length ∧ L.length ≤ 8 ∧ ∀ j, j < L.length → OkAt L j
noncomputable instance (L : List (Int × BitVec 64)) : Decidable (GoodUn L) := Classical.propDecidable _
theorem bytes_n (v : Value) (ws : List (BitVec 64)) (w : World) (hv : RdW w v ws) (hlen : ws.length ≤ 1000000) :
    NewRow Tryz.prog 88 [v] 5 1 (bytesW ws).length ((bytesW ws).map bv) w := by
 refine enter (feet []) [] Tryz.func88 rfl Tryz.ntmps88 rfl ⟨by simp, by simp, by simp, Mod.refl _ _⟩ ?_
 simp only [envOf]
 refine tR ?_
 refine tA rfl rfl ?_
 refine tE ?_
 refine tR ?_
 refine tM rfl rfl ?_
 refine At.val (Val.lenRd hv Tryz.underlying44 rfl) rfl rfl rfl ?_
 refine At.val (Val.mulI rfl rfl (by omega) (by omega)) rfl rfl rfl ?_
 rw [show (8 : Int) * (ws.length : Int) = ((8 * ws.length : Nat) : Int) from by omega]
 refine At.makeRow0B (c := 8 * ws.length) Tryz.underlying59 info_5 rfl rfl rfl rfl rfl (by omega) rfl (fun v1 => ?_)
 refine tA rfl rfl ?_
 refine tE ?_
 refine At.seq ?_
 refine tR ?_
 refine tM rfl rfl ?_
 refine At.val (Val.lenRd hv Tryz.underlying44 rfl) rfl rfl rfl ?_
 refine tM rfl rfl ?_
 refine tE ?_
 refine At.block ?_
 skip
 refine At.loop (σ := Nat × Value) (fun s => s.1 ≤ ws.length) (fun s => [(3, s.2), (11, v), (12, .int .i64 (ws.length : Int)), (13, .int .i64 (s.1 : Int))]) (fun s => [brow 5 s.2 (bytesW (ws.take s.1))]) (fun s => ws.length - s.1) (0, v1) (Nat.zero_le _) (Sub.cons rfl (Sub.cons rfl (Sub.cons rfl (Sub.cons rfl Sub.nil)))) (List.Perm.refl _) ?_
 intro s hs
 obtain ⟨k, vk⟩ := s
 dsimp only at hs ⊢
 refine tR ?_
 refine At.val (Val.bin rfl rfl rfl) rfl rfl rfl ?_
 refine tE ?_
 refine At.seq ?_
 refine At.cond rfl (fun h2 => ?_) (fun h2 => ?_)
 ·skip
  try simp only [vN_T, vN_F, nmE_T, nmE_F, wI_T, wI_F, data_T, data_F, ino_T, ino_F, notT, notF, bneT, bneF, beqT, beqF, decT, decF] at h2
  have hk : k < ws.length := by omega
  have hbl := bytesW_length (ws.take k)
  have htl : (ws.take k).length = k := by rw [List.length_take]; omega
  refine At.skipC ?_
  refine At.thenN ?_
  refine At.seq ?_
  refine At.block ?_
  refine tR ?_
  refine At.idxF hv Tryz.underlying44 Tryz.sizeOf32 rfl rfl (by omega) (by omega) rfl rfl (fun b3 o4 q5 hq6 hc7 => ?_)
  refine At.val (Val.loadOld Tryz.isAgg32 rfl hc7 (fun h => by simp [feet] at h)) rfl rfl rfl ?_
  refine tA rfl rfl ?_
  refine tE ?_
  refine tR ?_
  refine tM rfl rfl ?_
  refine At.callP (fun w hw => lay_p q5 w) Tryz.call108 rfl rfl ?_
  refine At.alloc zero_146 zc_146 rfl (fun b9 => ?_)
  refine At.storeAll (i := 0) Tryz.sizeOf146 rfl rfl (by simp [le_length]) (by simp [Value.oneCell']) rfl (by simp) ?_
  simp only [sc0, scS]
  refine tE ?_
  refine At.region ?_
  refine tM rfl rfl ?_
  refine At.val (Val.cutArr 0 8 0 8 8 Tryz.underlying146 Tryz.sizeOf5 rfl rfl rfl (by decide) (by decide) rfl rfl rfl) rfl rfl rfl ?_
  refine At.appendBlkB (i := 1) (j := 0) (m := le 8 q5.toNat) (by_ := 1) Tryz.underlying59 info_5 rfl rfl rfl rfl rfl rfl rfl rfl (le_length ..) (by omega) (by omega) rfl (fun v10 => ?_)
  simp only [sc0, scS]
  refine tA rfl rfl ?_
  refine At.nil ?_
  refine At.blkN ?_
  refine At.thenN ?_
  refine At.region ?_
  first | refine At.val (Val.addI rfl rfl (by omega) (by omega)) rfl rfl rfl ?_ | refine At.val (Val.bin rfl rfl rfl) rfl rfl rfl ?_
  refine tM rfl rfl ?_
  refine tE ?_
  refine At.drop 0 ?_
  simp only [ec0, ecS]
  exact At.again (k + 1, v10) (show k + 1 ≤ _ by omega) (by dsimp only; omega) (Sub.cons rfl (Sub.cons rfl (Sub.cons rfl (Sub.cons (congrArg (fun z => some (Value.int IntKind.i64 z)) (by omega)) Sub.nil)))) (by rw [List.take_succ_of_get (by have := hq6; rwa [Int.toNat_natCast] at this), bytesW_snoc])
 ·skip
  try simp only [vN_T, vN_F, nmE_T, nmE_F, wI_T, wI_F, data_T, data_F, ino_T, ino_F, notT, notF, bneT, bneF, beqT, beqF, decT, decF] at h2
  obtain rfl : k = ws.length := by omega
  rw [List.take_length]
  refine At.exitC ?_
  refine At.thenX ?_
  refine At.thenX ?_
  refine At.blkX ?_
  refine At.thenN ?_
  refine tR ?_
  refine tM rfl rfl ?_
  refine tA rfl rfl ?_
  refine tE ?_
  refine At.retC ?_
  refine At.ret1 (.inl rfl) rfl rfl rfl (fun w hw => ?_)
  exact ⟨vk, rfl, hw.drop (List.singleton_sublist.2 (List.mem_of_getElem? (i := 0) rfl))⟩
end Go.Proofs.YthhkbbodhghmcaaGreatDoor
set_option linter.unusedVariables false
set_option linter.unusedSimpArgs false
namespace Go.Wk
open Go
section
variable {P : Program} {Γ : Ctx} {E E' : Env} {H : List Res} {ops : Array Oper} {Q : Exit → Act → World → Prop} {rest : List Oper}
  {d : Nat} {ty : TypeId} {pos : String} {after : Array Edge} {x y : Operand} {v u : Value}
theorem At.copyStrRow {i dT sT e e' N C m c o b : Nat} {s : ByteArray} {l : List UInt8} (ht : P.underlying dT = some (.slice e)) (hz : ∀ w, (sizeOf e).run P w = .ok 1 w)
    (hx : ev E x = some (.slice (some ⟨b, o, none⟩) m c)) (hy : ev E y = some (.string s)) (hi : H[i]? = some (rowR (.slice (some ⟨b, 0, none⟩) N C) e' 1 N (l.map bv))) (hm : s.size ≤ m) (ho : o + s.size ≤ l.length) (hn : Nat.blt d Γ.n = true)
    (k : At Γ ((d, .int .i64 s.size) :: E) (H.set i (rowR (.slice (some ⟨b, 0, none⟩) N C) e' 1 N ((l.take o ++ s.data.toList ++ l.drop (o + s.data.toList.length)).map bv))) (wpList P ops Q rest)) :
    At Γ E H (wpList P ops Q ({ dst := some d, op := .call { callee := .builtin .copy, args := #[x, y], argTypes := #[dT, sT] }, type := ty, pos, after, guard := none } :: rest)) :=
  At.run rfl rfl hn fun a w ha hw => by
    have hl : (s.data.toList.map bv).length = s.size := by rw [List.length_map]; exact Array.length_toList
    obtain ⟨w', hr, hw'⟩ := storeCells_row (P := P) (s.data.toList.map bv) o 0 (l.map bv) H w hw hi (by rw [hl, List.length_map]; omega) (bv_one _)
    rw [Nat.add_zero, putAt_map] at hw'
    refine ⟨.int .i64 s.size, w', _, ?_, hw', k⟩
    have hmin : Nat.min s.size m = s.size := Nat.min_eq_left hm
    have hr' : (storeCells ⟨b, o, none⟩ (s.data.toList.map bv) 0).run P w = .ok () w' := hr
    have h0 : (Builtin.copy_ #[dT, sT] ty #[.slice (some ⟨b, o, none⟩) m c, .string s]).run P w = .ok (goInt s.size) w' := by
      simp [Builtin.copy_, run_underlying ht, Builtin.lenOf, Builtin.firstCells, hz, hmin]
      rw [List.take_of_length_le (by rw [List.length_map]; exact Nat.le_of_eq Array.length_toList)]
      rw [show (s.data.toList.map fun b : UInt8 => Value.int IntKind.u8 (b.toNat : Int)) = s.data.toList.map bv from rfl, hr']
      rfl
    simp [execOp, resolve, invoke, builtin, ha.eval hx, ha.eval hy, Sem.run_bind, h0, goInt]
theorem At.rowCap {i e sz n c : Nat} {A : Option Addr} {xs : List Value} {φ : Act → World → Prop} (hi : H[i]? = some (rowR (.slice A n c) e sz n xs)) (k : n ≤ c → At Γ E H φ) : At Γ E H φ := fun a w ha hw => by
  rcases (hw.row hi).2 with ⟨_, h⟩ | ⟨b, cap, cur, h, h1⟩
  · exact k (by omega) a w ha hw
  · simp only [Value.slice.injEq] at h
    obtain ⟨_, _, rfl⟩ := h
    exact k (by have := h1; omega) a w ha hw
/-- The first bytes of a row, into a part of a row that holds no more. -/
theorem At.copyCutRow {i j dT sT e e' N C c o b m : Nat} {l s : List UInt8} (ht : P.underlying dT = some (.slice e)) (hz : ∀ w, (sizeOf e).run P w = .ok 1 w)
    (hx : ev E x = some (.slice (some ⟨b, o, none⟩) m c)) (hy : ev E y = some u) (hi : H[i]? = some (rowR (.slice (some ⟨b, 0, none⟩) N C) e' 1 N (l.map bv))) (hj : H[j]? = some (rowR u e' 1 s.length (s.map bv))) (hm : m ≤ s.length) (hm0 : 0 < m) (ho : o + m ≤ l.length) (hn : Nat.blt d Γ.n = true)
    (k : At Γ ((d, .int .i64 m) :: E) (H.set i (rowR (.slice (some ⟨b, 0, none⟩) N C) e' 1 N ((l.take o ++ s.take m ++ l.drop (o + m)).map bv))) (wpList P ops Q rest)) :
    At Γ E H (wpList P ops Q ({ dst := some d, op := .call { callee := .builtin .copy, args := #[x, y], argTypes := #[dT, sT] }, type := ty, pos, after, guard := none } :: rest)) :=
  At.run rfl rfl hn fun a w ha hw => by
    have hsrc := hw.row hj
    have hl : ((s.take m).map bv).length = m := by rw [List.length_map, List.length_take]; omega
    obtain ⟨w', hr, hw'⟩ := storeCells_row (P := P) ((s.take m).map bv) o 0 (l.map bv) H w hw hi (by rw [hl, List.length_map]; omega) (bv_one _)
    rw [Nat.add_zero, putAt_map, List.length_take, Nat.min_eq_left hm] at hw'
    rcases hsrc.2 with ⟨_, h⟩ | ⟨b', cap', cur', rfl, _⟩
    · omega
    have hld := run_loadCells_list (P := P) w ⟨b', 0, none⟩ ((s.take m).map bv) (fun j u hu => by
      rw [Addr.add_off, Nat.zero_add]
      refine row_cell hsrc (q := j) ?_
      rw [List.getElem?_map] at hu ⊢
      rw [List.getElem?_take] at hu
      split at hu
      · exact hu
      · cases hu)
    refine ⟨.int .i64 m, w', _, ?_, hw', k⟩
    rw [hl] at hld
    have hr' : (storeCells ⟨b, o, none⟩ ((s.take m).map bv) 0).run P w = .ok () w' := hr
    have h0 : (Builtin.copy_ #[dT, sT] ty #[.slice (some ⟨b, o, none⟩) m c, .slice (some ⟨b', 0, none⟩) s.length cap']).run P w = .ok (goInt m) w' := by
      have hmin : Nat.min s.length m = m := Nat.min_eq_right hm
      have hmin' : min s.length m = m := Nat.min_eq_right hm
      have hmin2 : min m s.length = m := Nat.min_eq_left hm
      simp [Builtin.copy_, run_underlying ht, Builtin.lenOf, Builtin.firstCells, hz, hmin, hmin', hmin2, hld, hr']
      rw [← List.map_take, hr']
      rfl
    simp [execOp, resolve, invoke, builtin, ha.eval hx, ha.eval hy, Sem.run_bind, h0, goInt]
end
end Go.Wk
set_option linter.unusedVariables false
set_option linter.unusedSimpArgs false
namespace Go.Proofs.YthhkbbodhghmcaaGreatDoor
open Go Go.Wk
theorem nat_b64 {n : Nat} (h : n < 18446744073709551616) : Value.int .u64 ((n : Nat) : Int) = b64 (BitVec.ofNat 64 n) := by
  unfold b64; rw [BitVec.toNat_ofNat, Nat.mod_eq_of_lt (by simpa using h)]
theorem u64_or {a b : Nat} (ha : a < 18446744073709551616) (hb : b < 18446744073709551616) : ib .or .u64 (a : Int) (b : Int) = ((a ||| b : Nat) : Int) := by
  show IntKind.u64.wrap ((BitVec.ofInt 64 (a : Int) ||| BitVec.ofInt 64 (b : Int)).toNat : Int) = _
  have e1 : (BitVec.ofInt 64 (a : Int)).toNat = a := by simp [BitVec.toNat_ofInt]; omega
  have e2 : (BitVec.ofInt 64 (b : Int)).toNat = b := by simp [BitVec.toNat_ofInt]; omega
  rw [BitVec.toNat_or, e1, e2]
  have : a ||| b < 2 ^ 64 := Nat.or_lt_two_pow (by simpa using ha) (by simpa using hb)
  have h2 : a ||| b < 18446744073709551616 := by simpa using this
  generalize a ||| b = z at *
  exact wrap_u64 (by omega) (by omega)
theorem or_shift {k a b : Nat} (ha : a < 2 ^ k) : a ||| (2 ^ k * b) = a + 2 ^ k * b := by
  rw [Nat.or_comm, ← Nat.two_pow_add_eq_or_of_lt ha]; omega
def magic : List UInt8 := [70, 85, 82, 82, 79, 87, 83, 86]
def spB (L : List (Int × Int)) : List UInt8 := L.flatMap fun c => le 2 c.1.toNat ++ le 2 c.2.toNat
theorem spB_snoc (L : List (Int × Int)) (c : Int × Int) : spB (L ++ [c]) = spB L ++ le 2 c.1.toNat ++ le 2 c.2.toNat := by simp [spB]
theorem spB_length (L : List (Int × Int)) : (spB L).length = 4 * L.length := by
  induction L with
  | nil => rfl
  | cons c L ih => unfold spB at *; simp only [List.flatMap_cons, List.length_append, List.length_cons, le_length, ih]; omega
def pad (n : Nat) : List UInt8 := if n % 2 = 1 then zs 4 else []
theorem pad_1 {n : Nat} (h : n % 2 = 1) : pad n = zs 4 := if_pos h
theorem pad_0 {n : Nat} (h : ¬ n % 2 = 1) : pad n = [] := if_neg h
theorem pad_length (n : Nat) : (pad n).length = 4 * (n % 2) := by
  by_cases h : n % 2 = 1
  · rw [pad_1 h, zs_length, h]
  · rw [pad_0 h]; simp; omega
def hd20 (t : BitVec 32) (n : Nat) : List UInt8 := magic ++ le 4 t.toNat ++ zs 4 ++ le 4 n
theorem hd20_length (t : BitVec 32) (n : Nat) : (hd20 t n).length = 20 := by unfold hd20; simp [le_length, zs_length, magic]
def svSum (t : BitVec 32) (L : List (Int × Int)) : BitVec 32 := sumOn 0 (hd20 t L.length ++ spB L)
def svB (t : BitVec 32) (L : List (Int × Int)) : List UInt8 := hd20 t L.length ++ le 4 (svSum t L).toNat ++ spB L ++ pad L.length
theorem svB_length (t : BitVec 32) (L : List (Int × Int)) : (svB t L).length = 24 + 4 * L.length + 4 * (L.length % 2) := by
  unfold svB; simp only [List.length_append, hd20_length, le_length, spB_length, pad_length]
noncomputable def svP (t : BitVec 32) (L : List (Int × Int)) : List UInt8 := if GoodSv t L then svB t L else []
noncomputable def svE (t : BitVec 32) (L : List (Int × Int)) : Int := if GoodSv t L then 0 else 36
theorem svP_T {t : BitVec 32} {L : List (Int × Int)} (h : GoodSv t L) : svP t L = svB t L := if_pos h
theorem svP_F {t : BitVec 32} {L : List (Int × Int)} (h : ¬ GoodSv t L) : svP t L = [] := if_neg h
theorem svE_T {t : BitVec 32} {L : List (Int × Int)} (h : GoodSv t L) : svE t L = 0 := if_pos h
theorem svE_F {t : BitVec 32} {L : List (Int × Int)} (h : ¬ GoodSv t L) : svE t L = 36 := if_neg h
theorem sumV_p (v : Value) (l : List UInt8) (w : World) (hv : RdB w v l) (ht : Tab w) (hlen : l.length ≤ 140737488355328) : PureC Tryz.prog 110 [v] (b32 (sumOn 0 l)) w := by
  obtain ⟨A, c, rfl, hb, _⟩ := hv.bytes; exact sum_p A l c w hb ht hlen
theorem sumOnV_p (s : BitVec 32) (v : Value) (l : List UInt8) (w : World) (hv : RdB w v l) (ht : Tab w) (hlen : l.length ≤ 140737488355328) : PureC Tryz.prog 109 [b32 s, v] (b32 (sumOn s l)) w := by
  obtain ⟨A, c, rfl, hb, _⟩ := hv.bytes; exact sumOn_p s A l c w hb ht hlen
def spW (c : Int × Int) : Nat := c.1.toNat + 65536 * c.2.toNat
/-- The words so far. -/
def hdW (t : BitVec 32) (n : Nat) : List UInt8 := zs 8 ++ le 4 t.toNat ++ zs 4 ++ le 4 n ++ zs 4
def WI (t : BitVec 32) (L : List (Int × Int)) (k : Nat) (W : List (BitVec 64)) : Prop := W.length = 3 + (k + 1) / 2 ∧ bytesW W = hdW t L.length ++ spB (L.take k) ++ pad k ∧ (k % 2 = 1 → ∃ W' y, W = W' ++ [y] ∧ y.toNat < 4294967296)
theorem le8_lo {n : Nat} (h : n < 256 ^ 4) : le 8 n = le 4 n ++ zs 4 := by
  have := le_append 4 4 n 0 h
  rw [Nat.mul_zero, Nat.add_zero] at this
  exact this.symm
theorem le4_sp {a b : Nat} (ha : a < 65536) : le 4 (a + 65536 * b) = le 2 a ++ le 2 b := (le_append 2 2 a b ha).symm
theorem ofNat_toNat {n : Nat} (h : n < 18446744073709551616) : (BitVec.ofNat 64 n).toNat = n := by rw [BitVec.toNat_ofNat, Nat.mod_eq_of_lt (by simpa using h)]
theorem wi_0 {t : BitVec 32} {L : List (Int × Int)} (hL : L.length ≤ 249) : WI t L 0 [0, BitVec.ofNat 64 t.toNat, BitVec.ofNat 64 L.length] := by
  refine ⟨rfl, ?_, fun h => by simp at h⟩
  have ht := t.isLt
  rw [show bytesW [0, BitVec.ofNat 64 t.toNat, BitVec.ofNat 64 L.length] = le 8 (0 : BitVec 64).toNat ++ (le 8 (BitVec.ofNat 64 t.toNat).toNat ++ (le 8 (BitVec.ofNat 64 L.length).toNat ++ [])) from rfl, ofNat_toNat (by omega), ofNat_toNat (by omega), le8_lo (n := t.toNat) (by omega), le8_lo (n := L.length) (by omega)]
  unfold hdW
  rw [List.take_zero, show spB [] = [] from rfl, show pad 0 = [] from rfl, show le 8 (0 : BitVec 64).toNat = zs 8 from rfl]
  simp only [List.append_assoc, List.append_nil]
theorem spW_lt {lo : Int} {c : Int × Int} (h5 : 5 ≤ lo) (h : OkSp lo c) : spW c < 4294967296 ∧ c.1.toNat < 65536 := by unfold OkSp at h; unfold spW; omega
theorem wi_even {t : BitVec 32} {L : List (Int × Int)} {k : Nat} {W : List (BitVec 64)} {c : Int × Int} (h : WI t L k W) (hk : k % 2 = 0) (hc : L[k]? = some c) (hw : spW c < 4294967296 ∧ c.1.toNat < 65536) : WI t L (k + 1) (W ++ [BitVec.ofNat 64 (spW c)]) := by
  obtain ⟨h1, h2, _⟩ := h
  refine ⟨by rw [List.length_append, h1]; simp; omega, ?_, fun _ => ⟨W, _, rfl, by rw [ofNat_toNat (by omega)]; exact hw.1⟩⟩
  rw [bytesW_snoc, ofNat_toNat (by omega), h2, pad_0 (by omega), pad_1 (by omega), List.take_succ_of_get hc, spB_snoc, le8_lo (by omega)]
  unfold spW
  rw [le4_sp hw.2]
  simp only [List.append_assoc, List.append_nil, List.nil_append]
theorem wi_odd {t : BitVec 32} {L : List (Int × Int)} {k : Nat} {W' : List (BitVec 64)} {y : BitVec 64} {c : Int × Int} (h : WI t L k (W' ++ [y])) (hk : k % 2 = 1) (hy : y.toNat < 4294967296) (hc : L[k]? = some c) (hw : spW c < 4294967296 ∧ c.1.toNat < 65536) : WI t L (k + 1) (W' ++ [BitVec.ofNat 64 (y.toNat + 4294967296 * spW c)]) := by
  obtain ⟨h1, h2, _⟩ := h
  rw [List.length_append] at h1
  refine ⟨by rw [List.length_append]; simp at h1 ⊢; omega, ?_, fun h => by omega⟩
  rw [bytesW_snoc, pad_1 hk, le8_lo (by omega), ← List.append_assoc] at h2
  have h3 := List.append_cancel_right h2
  rw [bytesW_snoc, ofNat_toNat (by omega), pad_0 (by omega), List.take_succ_of_get hc, spB_snoc]
  have e : le 8 (y.toNat + 4294967296 * spW c) = le 4 y.toNat ++ le 4 (spW c) := (le_append 4 4 y.toNat (spW c) (by omega)).symm
  rw [e, ← List.append_assoc, h3]
  unfold spW
  rw [le4_sp hw.2]
  simp only [List.append_assoc, List.append_nil]
theorem set_last (W' : List (BitVec 64)) (y z : BitVec 64) : ((W' ++ [y]).map b64).set W'.length (b64 z) = (W' ++ [z]).map b64 := by
  rw [← List.map_set, List.set_append_right _ _ (Nat.le_refl _), Nat.sub_self]; rfl
/-- The record with its name, without its sum. -/
def svZ (t : BitVec 32) (L : List (Int × Int)) : List UInt8 := hdW t L.length ++ spB L ++ pad L.length
def svM (t : BitVec 32) (L : List (Int × Int)) : List UInt8 := hd20 t L.length ++ zs 4 ++ spB L ++ pad L.length
theorem svZ_length (t : BitVec 32) (L : List (Int × Int)) : (svZ t L).length = 24 + 4 * L.length + 4 * (L.length % 2) := by
  unfold svZ hdW; simp only [List.length_append, zs_length, le_length, spB_length, pad_length]
theorem svM_length (t : BitVec 32) (L : List (Int × Int)) : (svM t L).length = 24 + 4 * L.length + 4 * (L.length % 2) := by
  unfold svM; simp only [List.length_append, hd20_length, zs_length, spB_length, pad_length]
theorem svM_of (t : BitVec 32) (L : List (Int × Int)) (m : List UInt8) (hm : m = magic) : (svZ t L).take 0 ++ m ++ (svZ t L).drop (0 + m.length) = svM t L := by
  subst hm
  rw [List.take_zero, List.nil_append]
  unfold svZ svM hd20 hdW
  rw [show 0 + magic.length = (zs 8).length from rfl]
  simp only [List.append_assoc]
  rw [List.drop_left]
theorem svM_sum (t : BitVec 32) (L : List (Int × Int)) : (svM t L).take 20 ++ ((svM t L).drop 24).take (4 * L.length) = hd20 t L.length ++ spB L := by
  have e : svM t L = hd20 t L.length ++ (zs 4 ++ (spB L ++ pad L.length)) := by unfold svM; simp only [List.append_assoc]
  rw [e, List.take_left' (hd20_length ..)]
  congr 1
  rw [show (24 : Nat) = 20 + 4 from rfl, ← List.drop_drop, List.drop_left' (hd20_length ..), List.drop_left' (zs_length 4), List.take_left' (spB_length L)]
theorem svB_of (t : BitVec 32) (L : List (Int × Int)) : (svM t L).take 20 ++ (le 8 (svSum t L).toNat).take 4 ++ (svM t L).drop (20 + 4) = svB t L := by
  have e : svM t L = hd20 t L.length ++ (zs 4 ++ (spB L ++ pad L.length)) := by unfold svM; simp only [List.append_assoc]
  rw [e, List.take_left' (hd20_length ..), ← List.drop_drop, List.drop_left' (hd20_length ..), List.drop_left' (zs_length 4), le_take (by decide)]
  unfold svB; simp only [List.append_assoc]
theorem svSum_p (v : Value) (l : List UInt8) (n : Nat) (w : World) (ht : Tab w) (hv : RdB w v l) (hn : 24 + 4 * n ≤ l.length) (hlen : l.length ≤ 140737488355328) :
    PureC Tryz.prog 89 [v, .int .i64 (n : Int)] (b32 (sumOn 0 (l.take 20 ++ (l.drop 24).take (4 * n)))) w := by
 obtain ⟨A, c, rfl, hcl, hl1, hc1, hn1, hs1⟩ := id hv
 refine enter0 Tryz.func89 rfl Tryz.ntmps89 rfl ?_
 simp only [envOf]
 refine tR ?_
 refine tA rfl rfl ?_
 refine tE ?_
 refine At.seq ?_
 refine At.quiet rfl (by decide +kernel) ?_
 refine qM rfl rfl ?_
 refine QAt.val (Val.cutRd (l := 0) (h := 20) hv Tryz.underlying59 Tryz.sizeOf5 rfl rfl ⟨_, _, rfl, by omega, by omega⟩ (by omega) (by omega)) rfl rfl rfl ?_
 refine QAt.callP (fun w hw => sumV_p _ _ w ((RdB.cut (l := 0) (h := 20) hv (by omega) (by omega)).mod hw.mod) (ht.mod hw.mod) (by simp only [List.length_take, List.length_drop]; omega)) Tryz.call110 rfl rfl ?_
 refine qM rfl rfl ?_
 refine qM rfl rfl ?_
 first | refine QAt.val (Val.mulI rfl rfl (by omega) (by omega)) rfl rfl rfl ?_ | refine QAt.val (Val.bin rfl rfl rfl) rfl rfl rfl ?_
 first | refine QAt.val (Val.addI rfl rfl (by omega) (by omega)) rfl rfl rfl ?_ | refine QAt.val (Val.bin rfl rfl rfl) rfl rfl rfl ?_
 refine QAt.val (Val.cutRd (l := 24) (h := 24 + 4 * n) hv Tryz.underlying59 Tryz.sizeOf5 rfl ⟨_, _, rfl, by omega, by omega⟩ ⟨_, _, rfl, by omega, by omega⟩ (by omega) (by omega)) rfl rfl rfl ?_
 refine QAt.callP (fun w hw => sumOnV_p _ _ _ w ((RdB.cut (l := 24) (h := 24 + 4 * n) hv (by omega) (by omega)).mod hw.mod) (ht.mod hw.mod) (by simp only [List.length_take, List.length_drop]; omega)) Tryz.call109 rfl rfl ?_
 refine QAt.val (Val.assign rfl) rfl rfl rfl ?_
 refine QAt.fin ?_
 refine At.thenN ?_
 refine At.retC ?_
 refine At.ret1 (.inl rfl) rfl rfl rfl (fun w hw => ?_)
 exact ⟨by rw [sumOn_append, List.drop_zero, show 20 - 0 = 20 from rfl, show 24 + 4 * n - 24 = 4 * n from by omega], hw.mod⟩
theorem packSv_n (t : BitVec 32) (v : Value) (L : List (Int × Int)) (w : World) (hv : RdS w v L) (hlen : L.length ≤ 8796093022144) (ht : Tab w) :
    NewRowT Tryz.prog 49 [.agg #[b32 t, v]] (fun v => .tuple #[v, .int .i64 (svE t L)]) 5 1 (svP t L).length ((svP t L).map bv) w := by
 refine enter0 Tryz.func49 rfl Tryz.ntmps49 rfl ?_
 simp only [envOf]
 refine tR ?_
 refine At.box rfl rfl rfl (fun b1 => ?_)
 refine tA rfl rfl ?_
 refine tA rfl rfl ?_
 refine tE ?_
 refine At.seq ?_
 refine tR ?_
 refine At.val (Val.loadAll (i := 0) Tryz.isAgg90 Tryz.sizeOf90 rfl rfl rfl) rfl rfl rfl ?_
 refine At.callP (fun w hw => goodSv_p t v L w (hv.mod hw.mod) hlen) Tryz.call87 rfl rfl ?_
 refine At.val (Val.not rfl) rfl rfl rfl ?_
 refine tE ?_
 refine At.cond rfl (fun h2 => ?_) (fun h2 => ?_)
 ·skip
  try simp only [vN_T, vN_F, nmE_T, nmE_F, wI_T, wI_F, data_T, data_F, ino_T, ino_F, notT, notF, bneT, bneF, beqT, beqF, decT, decF] at h2
  have hg : ¬ GoodSv t L := by simpa using h2
  refine tR ?_
  refine tA rfl rfl ?_
  refine tA rfl rfl ?_
  refine At.nil ?_
  refine At.rowNilB 5 ?_
  refine At.thenN ?_
  refine At.retC ?_
  refine At.thenR ?_
  refine At.ret2 (.inl rfl) rfl rfl rfl rfl (fun w hw => ?_)
  exact ⟨_, by rw [svE_F hg], by rw [svP_F hg]; exact (hw.drop (List.singleton_sublist.2 (List.mem_of_getElem? (i := 0) rfl))).f0⟩
 ·skip
  try simp only [vN_T, vN_F, nmE_T, nmE_F, wI_T, wI_F, data_T, data_F, ino_T, ino_F, notT, notF, bneT, bneF, beqT, beqF, decT, decF] at h2
  have hg : GoodSv t L := by simpa using h2
  have hL : L.length ≤ 249 := hg.2.1
  have hti := t.isLt
  refine At.skipC ?_
  refine At.thenN ?_
  refine tR ?_
  refine At.val (Val.field 1 rfl fo_90_1 rfl) rfl rfl rfl ?_
  refine At.val (Val.load (i := 0) Tryz.isAgg35 rfl rfl rfl) rfl rfl rfl ?_
  refine At.val (Val.lenRd hv Tryz.underlying35 rfl) rfl rfl rfl ?_
  refine tA rfl rfl ?_
  refine tE ?_
  refine tR ?_
  refine At.val (Val.field 0 rfl fo_90_0 rfl) rfl rfl rfl ?_
  refine At.val (Val.load (i := 0) Tryz.isAgg76 rfl rfl rfl) rfl rfl rfl ?_
  refine At.val (Val.toU Tryz.underlying76 Tryz.underlying32 rfl (by omega) (by omega)) rfl rfl rfl ?_
  rw [nat_b64 (n := t.toNat) (by omega)]
  refine tM rfl rfl ?_
  refine At.val (Val.toU Tryz.underlying3 Tryz.underlying32 rfl (by omega) (by omega)) rfl rfl rfl ?_
  rw [nat_b64 (n := L.length) (by omega)]
  refine At.buildRow (fun a ha => by simp only [List.map_toArray, List.map_cons, List.map_nil, ha.eval (x := (.const (.int .u64 (0)))) rfl, ha.eval (x := (.tmp 19)) rfl, ha.eval (x := (.tmp 21)) rfl]; try rfl) (bs_44_3 _ _ _ ) 1 rfl (by decide) rfl (fun v3 => ?_)
  change At _ _ (wrow 32 v3 ([0, BitVec.ofNat 64 t.toNat, BitVec.ofNat 64 L.length]) :: _) _
  refine tA rfl rfl ?_
  refine tE ?_
  refine At.seq ?_
  refine tR ?_
  refine At.val (Val.field 1 rfl fo_90_1 rfl) rfl rfl rfl ?_
  refine At.val (Val.load (i := 1) Tryz.isAgg35 rfl rfl rfl) rfl rfl rfl ?_
  refine At.val (Val.lenRd hv Tryz.underlying35 rfl) rfl rfl rfl ?_
  refine tM rfl rfl ?_
  refine tE ?_
  refine At.block ?_
  skip
  refine At.drop 1 ?_
  simp only [ec0, ecS]
  refine At.loop (σ := Nat × List (BitVec 64) × Value) (fun s => s.1 ≤ L.length ∧ WI t L s.1 s.2.1) (fun s => [(4, .int .i64 (L.length : Int)), (5, s.2.2), (24, v), (25, .int .i64 (L.length : Int)), (26, .int .i64 (s.1 : Int))]) (fun s => [wrow 32 s.2.2 s.2.1]) (fun s => L.length - s.1) (0, [0, BitVec.ofNat 64 t.toNat, BitVec.ofNat 64 L.length], v3) ⟨Nat.zero_le _, wi_0 hL⟩ (Sub.cons rfl (Sub.cons rfl (Sub.cons rfl (Sub.cons rfl (Sub.cons rfl Sub.nil))))) (List.Perm.refl _) ?_
  intro s hs
  obtain ⟨k, W, vk⟩ := s
  dsimp only at hs ⊢
  refine tR ?_
  refine At.val (Val.bin rfl rfl rfl) rfl rfl rfl ?_
  refine tE ?_
  refine At.seq ?_
  refine At.cond rfl (fun h4 => ?_) (fun h4 => ?_)
  ·skip
   try simp only [vN_T, vN_F, nmE_T, nmE_F, wI_T, wI_F, data_T, data_F, ino_T, ino_F, notT, notF, bneT, bneF, beqT, beqF, decT, decF] at h4
   have hk : k < L.length := by omega
   refine At.skipC ?_
   refine At.thenN ?_
   refine At.seq ?_
   refine At.block ?_
   refine tR ?_
   refine tM rfl rfl ?_
   refine At.idxS hv Tryz.underlying35 Tryz.sizeOf100 rfl rfl (by omega) (by omega) rfl rfl (fun b5 o6 q7 hq8 hc9 hd10 => ?_)
   refine At.val (Val.loadSpan Tryz.isAgg100 Tryz.sizeOf100 rfl hc9 hd10 (fun h => h)) rfl rfl rfl ?_
   refine At.alloc Tryz.zeroValue100 rfl rfl (fun b11 => ?_)
   refine tA rfl rfl ?_
   refine At.storeAll (i := 0) Tryz.sizeOf100 rfl rfl rfl (by simp [Value.oneCell']) rfl rfl ?_
   simp only [sc0, scS]
   refine At.nil ?_
   have hqk := hq8
   rw [Int.toNat_natCast] at hqk
   have hc := hg.2.2 k _ hk hqk
   have hlo := lo_bd (k := k) (fun j c hj hc => hg.2.2 j c (by omega) hc) (by omega)
   have hw2 := spW_lt hlo.1 hc
   have hc2 := hc
   unfold OkSp at hc2
   refine At.thenN ?_
   refine tR ?_
   refine At.val (Val.field 0 rfl fo_100_0 rfl) rfl rfl rfl ?_
   refine At.val (Val.load (i := 0) Tryz.isAgg3 rfl rfl rfl) rfl rfl rfl ?_
   first | refine At.val (Val.toU Tryz.underlying3 Tryz.underlying32 rfl (by omega) (by omega)) rfl rfl rfl ?_ | refine At.val (Val.conv Tryz.underlying3 Tryz.underlying32 rfl) rfl rfl rfl ?_
   refine At.val (Val.field 1 rfl fo_100_1 rfl) rfl rfl rfl ?_
   refine At.val (Val.load (i := 0) Tryz.isAgg3 rfl rfl rfl) rfl rfl rfl ?_
   first | refine At.val (Val.toU Tryz.underlying3 Tryz.underlying32 rfl (by omega) (by omega)) rfl rfl rfl ?_ | refine At.val (Val.conv Tryz.underlying3 Tryz.underlying32 rfl) rfl rfl rfl ?_
   refine At.val (Val.shl rfl rfl (by decide)) rfl rfl rfl ?_
   rw [show IntKind.u64.wrap (q7.2 * 2 ^ min (16 : Int).toNat IntKind.u64.bits) = ((65536 * q7.2.toNat : Nat) : Int) from by rw [show (2 : Int) ^ min (16 : Int).toNat IntKind.u64.bits = 65536 from rfl, wrap_u64 (by omega) (by omega)]; omega]
   refine At.val (Val.bin rfl rfl rfl) rfl rfl rfl ?_
   rw [show ib .or .u64 q7.1 ((65536 * q7.2.toNat : Nat) : Int) = ((spW q7 : Nat) : Int) from by rw [show q7.1 = ((q7.1.toNat : Nat) : Int) from by omega, u64_or (by omega) (by omega), show (65536 : Nat) = 2 ^ 16 from rfl, or_shift (by omega)]; unfold spW; omega, nat_b64 (n := spW q7) (by omega)]
   refine tA rfl rfl ?_
   refine tE ?_
   refine tR ?_
   refine tM rfl rfl ?_
   first | refine At.val (Val.remI rfl rfl (by omega) (by decide)) rfl rfl rfl ?_ | refine At.val (Val.rem rfl rfl (by decide)) rfl rfl rfl ?_
   refine At.val (Val.bin rfl rfl rfl) rfl rfl rfl ?_
   refine tE ?_
   refine At.cond rfl (fun h12 => ?_) (fun h12 => ?_)
   ·skip
    try simp only [vN_T, vN_F, nmE_T, nmE_F, wI_T, wI_F, data_T, data_F, ino_T, ino_F, notT, notF, bneT, bneF, beqT, beqF, decT, decF] at h12
    have hev : k % 2 = 0 := by omega
    refine At.region ?_
    refine tM rfl rfl ?_
    refine tM rfl rfl ?_
    refine At.buildSl (fun a ha => by simp only [List.map_toArray, List.map_cons, List.map_nil, ha.eval (x := (.tmp 43)) rfl]; try rfl) (bs_44_1 _ ) rfl (fun b13 => ?_)
    refine At.appendWs (i := 2) (j := 0) (ms := [BitVec.ofNat 64 (spW q7)]) (by_ := 8) Tryz.underlying44 info_32 rfl rfl rfl rfl rfl rfl rfl rfl rfl (by rw [hs.2.1]; omega) (by rw [hs.2.1]; omega) rfl (fun v14 => ?_)
    simp only [sc0, scS]
    refine At.drop 0 ?_
    simp only [ec0, ecS]
    refine tA rfl rfl ?_
    refine At.nil ?_
    refine At.blkN ?_
    refine At.thenN ?_
    refine At.region ?_
    first | refine At.val (Val.addI rfl rfl (by omega) (by omega)) rfl rfl rfl ?_ | refine At.val (Val.bin rfl rfl rfl) rfl rfl rfl ?_
    refine tM rfl rfl ?_
    refine tE ?_
    refine At.drop 0 ?_
    simp only [ec0, ecS]
    exact At.again (k + 1, (W ++ [BitVec.ofNat 64 (spW q7)]), v14) ⟨(show k + 1 ≤ _ by omega), wi_even hs.2 hev hqk hw2⟩ (by dsimp only; omega) (Sub.cons rfl (Sub.cons rfl (Sub.cons rfl (Sub.cons rfl (Sub.cons (congrArg (fun z => some (Value.int IntKind.i64 z)) (by omega)) Sub.nil))))) (List.Perm.refl _)
   ·skip
    try simp only [vN_T, vN_F, nmE_T, nmE_F, wI_T, wI_F, data_T, data_F, ino_T, ino_F, notT, notF, bneT, bneF, beqT, beqF, decT, decF] at h12
    have hod : k % 2 = 1 := by omega
    obtain ⟨W', y, rfl, hy⟩ := hs.2.2.2 hod
    refine At.region ?_
    refine tM rfl rfl ?_
    refine tM rfl rfl ?_
    refine At.val (Val.lenRow (i := 1) Tryz.underlying44 rfl rfl) rfl rfl rfl ?_
    refine At.val (Val.bin rfl rfl rfl) rfl rfl rfl ?_
    rw [show IntKind.i64.wrap (((W' ++ [y]).length : Int) - 1) = ((W'.length : Nat) : Int) from by rw [List.length_append, List.length_singleton]; rw [wrap_i64 (by omega) (by have := hs.2.1; simp at this; omega)]; omega]
    refine At.val (Val.indexRow (i := 1) W'.length (by simp) Tryz.underlying44 Tryz.sizeOf32 rfl rfl rfl (by simp) (by simp; try omega)) rfl rfl rfl ?_
    refine At.val (Val.loadRow (i := 1) (u := b64 y) Tryz.isAgg32 rfl rfl (by simp)) rfl rfl rfl ?_
    refine tM rfl rfl ?_
    refine At.val (Val.shl rfl rfl (by decide)) rfl rfl rfl ?_
    rw [ofNat_toNat (n := spW q7) (by omega), show IntKind.u64.wrap (((spW q7 : Nat) : Int) * 2 ^ min (32 : Int).toNat IntKind.u64.bits) = ((4294967296 * spW q7 : Nat) : Int) from by rw [show (2 : Int) ^ min (32 : Int).toNat IntKind.u64.bits = 4294967296 from rfl, wrap_u64 (by omega) (by omega)]; omega]
    refine At.val (Val.bin rfl rfl rfl) rfl rfl rfl ?_
    rw [u64_or (a := y.toNat) (b := 4294967296 * spW q7) (by omega) (by omega), show (4294967296 : Nat) = 2 ^ 32 from rfl, or_shift (by simpa using hy), show (2 : Nat) ^ 32 = 4294967296 from rfl, nat_b64 (n := y.toNat + 4294967296 * spW q7) (by omega)]
    refine At.val (Val.indexRow (i := 1) W'.length (by simp) Tryz.underlying44 Tryz.sizeOf32 rfl rfl rfl (by simp) (by simp; try omega)) rfl rfl rfl ?_
    refine At.storeRow (i := 1) Tryz.sizeOf32 rfl rfl rfl rfl (by simp) ?_
    simp only [sc0, scS]
    rw [set_last, show (W' ++ [y]).length = (W' ++ [BitVec.ofNat 64 (y.toNat + 4294967296 * spW q7)]).length from by simp]
    refine At.nil ?_
    refine At.blkN ?_
    refine At.thenN ?_
    refine At.region ?_
    first | refine At.val (Val.addI rfl rfl (by omega) (by omega)) rfl rfl rfl ?_ | refine At.val (Val.bin rfl rfl rfl) rfl rfl rfl ?_
    refine tM rfl rfl ?_
    refine tE ?_
    refine At.drop 0 ?_
    simp only [ec0, ecS]
    exact At.again (k + 1, (W' ++ [BitVec.ofNat 64 (y.toNat + 4294967296 * spW q7)]), vk) ⟨(show k + 1 ≤ _ by omega), wi_odd hs.2 hod hy hqk hw2⟩ (by dsimp only; omega) (Sub.cons rfl (Sub.cons rfl (Sub.cons rfl (Sub.cons rfl (Sub.cons (congrArg (fun z => some (Value.int IntKind.i64 z)) (by omega)) Sub.nil))))) (List.Perm.refl _)
  ·skip
   try simp only [vN_T, vN_F, nmE_T, nmE_F, wI_T, wI_F, data_T, data_F, ino_T, ino_F, notT, notF, bneT, bneF, beqT, beqF, decT, decF] at h4
   obtain rfl : k = L.length := by omega
   have hWb := hs.2.2.1
   rw [List.take_length] at hWb
   have hZ := svZ_length t L
   have hM := svM_length t L
   refine At.exitC ?_
   refine At.thenX ?_
   refine At.thenX ?_
   refine At.blkX ?_
   refine At.thenN ?_
   refine tR ?_
   refine tM rfl rfl ?_
   refine At.callN (fun w hw => (show NewRow Tryz.prog 88 _ 5 1 (svZ t L).length ((svZ t L).map bv) w from by have := bytes_n _ W w (row_rd (hw.row (i := 0) rfl) (by decide)) (by rw [hs.2.1]; omega); rwa [hWb] at this)) Tryz.call88 rfl rfl (fun v15 => ?_)
   refine tA rfl rfl ?_
   refine tE ?_
   refine tR ?_
   refine tM rfl rfl ?_
   refine At.rowSome (i := 0) rfl (by omega) (fun bz cz hv' => ?_)
   subst hv'
   refine At.copyStrRow (i := 0) (o := 0) Tryz.underlying59 Tryz.sizeOf5 rfl rfl rfl (by rw [hZ]; show 8 ≤ _; omega) (by rw [hZ]; show 0 + 8 ≤ _; omega) rfl ?_
   simp only [sc0, scS]
   rw [svM_of t L [70, 85, 82, 82, 79, 87, 83, 86] rfl]
   rw [show (svZ t L).length = (svM t L).length from by rw [hZ, hM]]
   refine tE ?_
   refine tR ?_
   refine tM rfl rfl ?_
   refine tM rfl rfl ?_
   refine At.callP (fun w hw => (by have := svSum_p _ (svM t L) L.length w (ht.mod hw.mod) (row_rd (hw.row (i := 0) rfl) (by decide)) (by omega) (by omega); rwa [svM_sum] at this)) Tryz.call89 rfl rfl ?_
   refine tA rfl rfl ?_
   refine At.nil ?_
   refine At.rowCap (i := 0) rfl (fun hcz => ?_)
   refine At.thenN ?_
   refine At.seq ?_
   apply At.any (t := 7)
   · rfl
   refine KAt.pin (fun w hw => hw.drop (List.Sublist.cons _ (List.Sublist.cons _ (List.Sublist.refl _)))) ?_
   refine KAt.take 0 (Val.move rfl) rfl rfl rfl rfl (fun w hw => hw.drop (List.Sublist.cons _ (List.Sublist.cons _ (List.Sublist.refl _)))) (by decide +kernel) ?_
   refine KAt.take 1 (Val.cutSl (b := bz) (o := 0) (lo := some (.const (.int .i64 20))) (hi := some (.const (.int .i64 24))) 20 24 20 4 (cz - 20) Tryz.underlying59 Tryz.sizeOf5 rfl ⟨_, _, rfl, by omega, by omega⟩ ⟨_, _, rfl, by omega, by omega⟩ (by omega) (by omega) (by rw [if_neg (by omega)]) rfl rfl) rfl rfl rfl rfl (fun w hw => hw.drop (List.Sublist.cons _ (List.Sublist.cons _ (List.Sublist.refl _)))) (by decide +kernel) ?_
   refine KAt.take 2 (Val.move rfl) rfl rfl rfl rfl (fun w hw => hw.drop (List.Sublist.cons _ (List.Sublist.cons _ (List.Sublist.refl _)))) (by decide +kernel) ?_
   refine KAt.take 3 (Val.toU Tryz.underlying76 Tryz.underlying32 rfl (by omega) (by have := (svSum t L).isLt; show ((svSum t L).toNat : Int) < _; omega)) rfl rfl rfl rfl (fun w hw => hw.drop (List.Sublist.cons _ (List.Sublist.cons _ (List.Sublist.refl _)))) (by decide +kernel) ?_
   rw [show Value.int .u64 ((sumOn 0 (hd20 t L.length ++ spB L)).toNat : Int) = b64 (BitVec.ofNat 64 (svSum t L).toNat) from nat_b64 (n := (svSum t L).toNat) (by have := (svSum t L).isLt; omega)]
   refine KAt.only 4 rfl (by decide +kernel) ?_
   refine At.buildSl (fun a ha => by simp only [List.map_toArray, List.map_cons, List.map_nil, ha.eval (x := (.tmp 67)) rfl]; try rfl) (bs_44_1 _ ) rfl (fun b16 => ?_)
   refine At.nil ?_
   refine KAt.go (fun w hw => hw.drop (List.Sublist.cons _ (List.Sublist.cons _ (List.Sublist.cons _ (List.Sublist.refl _))))) ?_
   refine KAt.only 5 rfl (by decide +kernel) ?_
   refine At.callN (fun w hw => (show NewRow Tryz.prog 88 _ 5 1 (le 8 (svSum t L).toNat).length ((le 8 (svSum t L).toNat).map bv) w from by have := bytes_n _ [BitVec.ofNat 64 (svSum t L).toNat] w ((hw.blk (i := 0) rfl).words rfl) (by simp); rwa [show bytesW [BitVec.ofNat 64 (svSum t L).toNat] = le 8 (svSum t L).toNat from by rw [show bytesW [BitVec.ofNat 64 (svSum t L).toNat] = le 8 (BitVec.ofNat 64 (svSum t L).toNat).toNat ++ [] from rfl, List.append_nil, ofNat_toNat (by have := (svSum t L).isLt; omega)]] at this)) Tryz.call88 rfl rfl (fun v17 => ?_)
   refine At.nil ?_
   refine KAt.go (fun w hw => hw.drop (List.Sublist.cons _ (List.Sublist.cons _ (List.Sublist.cons _ (List.Sublist.cons _ (List.Sublist.refl _)))))) ?_
   refine KAt.only 6 rfl (by decide +kernel) ?_
   refine At.copyCutRow (i := 2) (j := 0) (o := 20) (m := 4) (s := le 8 (svSum t L).toNat) Tryz.underlying59 Tryz.sizeOf5 rfl rfl rfl rfl (by rw [le_length]; decide) (by decide) (by omega) rfl ?_
   simp only [sc0, scS]
   rw [svB_of, show (svM t L).length = (svB t L).length from by rw [hM, svB_length]]
   refine At.nil ?_
   refine KAt.go (fun w hw => hw.drop (List.Sublist.cons _ (List.Sublist.cons _ (List.Sublist.cons _ (List.Sublist.cons _ (List.Sublist.refl _)))))) ?_
   refine KAt.done (by decide +kernel) ?_
   refine At.thenN ?_
   refine tR ?_
   refine tM rfl rfl ?_
   refine tA rfl rfl ?_
   refine tA rfl rfl ?_
   refine tE ?_
   refine At.retC ?_
   refine At.ret2 (.inl rfl) rfl rfl rfl rfl (fun w hw => ?_)
   exact ⟨_, by rw [svE_T hg], by rw [svP_T hg]; exact (hw.drop (List.singleton_sublist.2 (List.mem_of_getElem? (i := 2) rfl))).f0⟩
end Go.Proofs.YthhkbbodhghmcaaGreatDoor
set_option linter.unusedVariables false
set_option linter.unusedSimpArgs false
namespace Go.Proofs.YthhkbbodhghmcaaGreatDoor
open Go Go.Wk
theorem must_T (e : Int) (w : World) :
    PureC Tryz.prog 116 [.bool true, .int .i64 e] (.tuple #[]) w := by
 refine enter0 Tryz.func116 rfl Tryz.ntmps116 rfl ?_
 simp only [envOf]
 refine tR ?_
 refine tM rfl rfl ?_
 refine At.val (Val.not rfl) rfl rfl rfl ?_
 refine tE ?_
 refine At.condF rfl ?_
 refine At.skipC ?_
 refine At.ret0 (.inr rfl) rfl rfl  (fun w hw => ?_)
 exact ⟨rfl, hw.mod⟩
theorem must_F (e : Int) (w : World) :
    Throws0 Tryz.prog 116 [.bool false, .int .i64 e] (brk 164 e) w := by
 refine enter0 Tryz.func116 rfl Tryz.ntmps116 rfl ?_
 simp only [envOf]
 refine tR ?_
 refine tM rfl rfl ?_
 refine At.val (Val.not rfl) rfl rfl rfl ?_
 refine tE ?_
 refine At.condT rfl ?_
 refine At.region ?_
 refine tM rfl rfl ?_
 refine At.val (Val.build (fun a ha => by simp only [List.map_toArray, List.map_cons, List.map_nil, ha.eval (x := (.tmp 6)) rfl] <;> rfl) (bld_164_0 _ )) rfl rfl rfl ?_
 refine At.val (Val.mkIface Tryz.underlying164 rfl) rfl rfl rfl ?_
 refine At.panicOp rfl ?_
 refine At.fail rfl (fun w hw => ?_)
 exact ⟨rfl, hw.mod⟩
theorem caughtSaved_idle (b1' b2' : Nat) (w : World) :
    Idle Tryz.prog 115 [.pointer (some ⟨b1', 0, none⟩), .pointer (some ⟨b2', 0, none⟩)] w := by
 refine CallsD.mono (enterC (v := .nilIface) (um' := .returning) (R := fun e w' => e = .returned (.tuple #[]) ∧ Mod (fun _ => False) w w') (fun _ => False) [] Tryz.func115 rfl Tryz.ntmps115 rfl rfl ⟨by simp, by simp, by simp, Mod.refl _ _⟩ (fun c₀ cs hu => .inr ⟨by simp [recoverD, hu], rfl, rfl⟩) ?_) (fun e u' w' h => ⟨h.2.1, h.1, h.2.2⟩)
 simp only [envOf]
 refine At.block ?_
 refine tR ?_
 refine At.val (Val.ifNilNil (by kernel_rfl) rfl) rfl rfl rfl ?_
 refine tE ?_
 refine At.condT rfl ?_
 refine At.region ?_
 refine tA rfl rfl ?_
 refine At.nil ?_
 refine At.blkN ?_
 refine At.ret0 (.inr rfl) rfl rfl  (fun w hw => ?_)
 exact ⟨rfl, hw.mod⟩
theorem caughtSaved_pan (b1' b2' : Nat) (cs : List Value) (x : Value) (why : Int) (w : World) (h1 : Holds w b1' 90 cs) (hl : cs.length = 2) (h2 : Holds w b2' 26 [x]) (hne : b1' ≠ b2') :
    Catches Tryz.prog 115 [.pointer (some ⟨b1', 0, none⟩), .pointer (some ⟨b2', 0, none⟩)] (brk 164 why) (blk b1' 90 cs) (blk b2' 26 [x]) (blk b1' 90 [Value.int .u32 0, Value.slice none 0 0]) (blk b2' 26 [.int .i64 why]) w := by
 refine CallsD.mono (enterC (v := .iface 164 (.agg #[.int .i64 why])) (um' := .panicking [{ v := .iface 164 (.agg #[.int .i64 why]), recovered := true }]) (R := fun e w' => e = .returned (.tuple #[]) ∧ Rep w (feet [(blk b1' 90 cs), (blk b2' 26 [x])]) [(blk b1' 90 [Value.int .u32 0, Value.slice none 0 0]), (blk b2' 26 [.int .i64 why])] w') (feet [(blk b1' 90 cs), (blk b2' 26 [x])]) [(blk b1' 90 cs), (blk b2' 26 [x])] Tryz.func115 rfl Tryz.ntmps115 rfl rfl (Rep.start (by simp only [List.pairwise_cons, List.mem_singleton, forall_eq, List.not_mem_nil, false_implies, implies_true, List.Pairwise.nil, and_true]; exact fun b (hb1 : b = b1') (hb2 : b = b2') => hne (hb1.symm.trans hb2)) (fun r hr => by rcases List.mem_cons.1 hr with rfl | hr; exact h1; rcases List.mem_cons.1 hr with rfl | hr; exact h2; cases hr)) (fun c₀ cs hu => .inl (by simp [recoverD, hu])) ?_) (fun e u' w' h => ⟨h.2.1, by rw [h.1]; rfl, h.2.2⟩)
 simp only [envOf]
 refine At.block ?_
 refine tR ?_
 refine At.val (Val.ifHeldNil (by kernel_rfl) rfl) rfl rfl rfl ?_
 refine tE ?_
 refine At.condF rfl ?_
 refine tR ?_
 refine At.val (Val.assertIs Tryz.underlying164 rfl) rfl rfl rfl ?_
 refine At.val (Val.extract rfl rfl) rfl rfl rfl ?_
 refine At.val (Val.extract rfl rfl) rfl rfl rfl ?_
 refine tE ?_
 refine At.condT rfl ?_
 refine tR ?_
 refine At.alloc Tryz.zeroValue164 rfl rfl (fun b1 => ?_)
 refine At.storeAll (i := 0) Tryz.sizeOf164 rfl rfl rfl (by simp [Value.oneCell']) rfl rfl ?_
 simp only [sc0, scS]
 refine tE ?_
 refine tR ?_
 refine At.alloc Tryz.zeroValue90 rfl rfl (fun b2 => ?_)
 refine tE ?_
 refine At.mid 7 6 [blk b2 90 [Value.int .u32 0, Value.slice none 0 0], blk b1 164 [_], blkP b1' 90 (fun _ => True), blk b2' 26 ([x])] [blk b2 90 [Value.int .u32 0, Value.slice none 0 0], blk b1 164 [_], blk b1' 90 [Value.int .u32 0, Value.slice none 0 0], blk b2' 26 ([x])] rfl (by decide +kernel) (by decide) rfl rfl (fun w hw => hw.blkP (i := 2) (fun _ => True) rfl trivial) (fun w hw => hw.blkP (i := 2) (fun _ => True) rfl trivial) ?_
 simp only [List.take_succ_cons, List.take_zero, List.drop_succ_cons, List.drop_zero]
 refine PAt.val (Val.move rfl) rfl rfl rfl rfl ?_
 refine PAt.val (Val.move rfl) rfl rfl rfl rfl ?_
 refine PAt.val (Val.loadAll (i := 0) Tryz.isAgg90 Tryz.sizeOf90 rfl rfl rfl) rfl rfl rfl rfl ?_
 refine PAt.val (Val.field 0 rfl fo_164_0 rfl) rfl rfl rfl rfl ?_
 refine PAt.val (Val.load (i := 1) Tryz.isAgg26 rfl rfl rfl) rfl rfl rfl rfl ?_
 refine PAt.val (Val.nilCheck rfl) rfl rfl rfl rfl ?_
 refine PAt.midS (fun a' w' ha' hw' => storeAll_step (i := 2) Tryz.sizeOf90 rfl rfl rfl (by simp [Value.oneCell']) rfl hl a' w' ha' hw') rfl rfl ?_
 refine PAt.fin ?_
 refine At.val (Val.nilCheck rfl) rfl rfl rfl ?_
 refine At.store (i := 3) Tryz.sizeOf26 rfl rfl rfl rfl (by first | decide | simp) ?_
 simp only [sc0, scS]
 refine At.nil ?_
 refine At.drop 0 ?_
 refine At.drop 0 ?_
 simp only [ec0, ecS]
 refine At.blkN ?_
 refine At.ret0 (.inr rfl) rfl rfl  (fun w hw => ?_)
 exact ⟨rfl, hw⟩
end Go.Proofs.YthhkbbodhghmcaaGreatDoor
set_option linter.unusedVariables false
set_option linter.unusedSimpArgs false
namespace Go.Proofs.YthhkbbodhghmcaaGreatDoor
open Go Go.Wk
theorem eyeNumber_p (b L o c at' n : Nat) (l : List UInt8) (w : World) (hh : Holds w b 155 (eyeC L o l.length c at')) (hb : Bytes w (some ⟨L, o, none⟩) l) (hne : L ≠ b) (hc : l.length ≤ c) (hm : l.length ≤ 140737488355328) (hn : at' + n ≤ l.length) (h8 : n ≤ 8) :
    Upd Tryz.prog 118 [.pointer (some ⟨b, 0, none⟩), .int .i64 (n : Int)] (blk b 155 (eyeC L o l.length c at')) (.int .u64 (num l at' n : Nat)) (blk b 155 (eyeC L o l.length c (at' + n))) w := by
 refine enter (feet [(blk b 155 (eyeC L o l.length c at'))]) [(blk b 155 (eyeC L o l.length c at'))] Tryz.func118 rfl Tryz.ntmps118 rfl (Rep.one hh) ?_
 have hS : ¬ feet [(blk b 155 (eyeC L o l.length c at'))] L := fun ⟨r, hr, hx⟩ => by rcases List.mem_singleton.1 hr with rfl; exact hne hx
 simp only [envOf]
 refine tR ?_
 refine tA rfl rfl ?_
 refine tE ?_
 refine tR ?_
 refine tA rfl rfl ?_
 refine tE ?_
 refine At.seq ?_
 refine tR ?_
 refine tM rfl rfl ?_
 refine tM rfl rfl ?_
 refine tE ?_
 refine At.block ?_
 skip
 refine At.loop (σ := Nat) (fun k => k ≤ n) (fun k => [(0, .pointer (some ⟨b, 0, none⟩)), (1, .int .i64 (n : Int)), (5, .int .u64 (num l at' k : Nat)), (7, .int .i64 (n : Int)), (8, .int .i64 (k : Int))]) (fun k => [blk b 155 (eyeC L o l.length c at')]) (fun k => n - k) 0 (Nat.zero_le _) (Sub.cons rfl (Sub.cons rfl (Sub.cons (congrArg (fun z => some (Value.int IntKind.u64 z)) (by rw [num_zero]; rfl)) (Sub.cons rfl (Sub.cons rfl Sub.nil))))) (List.Perm.refl _) ?_
 intro k hs
 refine tR ?_
 refine At.val (Val.bin rfl rfl rfl) rfl rfl rfl ?_
 refine tE ?_
 refine At.seq ?_
 refine At.cond rfl (fun h1 => ?_) (fun h1 => ?_)
 ·skip
  have hk : k < n := by have := h1; simp at this; omega
  obtain ⟨u, hu⟩ : ∃ u, l[at' + k]? = some u := ⟨_, List.getElem?_eq_getElem (by omega)⟩
  obtain ⟨b', o', hbo, hcell⟩ := hb _ _ hu
  simp only [Option.some.injEq, Addr.mk.injEq] at hbo
  obtain ⟨rfl, rfl, _⟩ := hbo
  refine At.skipC ?_
  refine At.thenN ?_
  refine At.seq ?_
  refine At.block ?_
  refine tR ?_
  refine tM rfl rfl ?_
  refine tA rfl rfl ?_
  refine tE ?_
  refine At.quiet rfl (by decide +kernel) ?_
  refine qM rfl rfl ?_
  refine qM rfl rfl ?_
  refine QAt.val (Val.nilCheck rfl) rfl rfl rfl ?_
  refine QAt.val (Val.field 0 rfl fo_155_0 rfl) rfl rfl rfl ?_
  refine QAt.val (Val.load (i := 0) Tryz.isAgg59 rfl rfl rfl) rfl rfl rfl ?_
  refine qM rfl rfl ?_
  refine QAt.val (Val.nilCheck rfl) rfl rfl rfl ?_
  refine QAt.val (Val.field 1 rfl fo_155_1 rfl) rfl rfl rfl ?_
  refine QAt.val (Val.load (i := 0) Tryz.isAgg3 rfl rfl rfl) rfl rfl rfl ?_
  refine qM rfl rfl ?_
  refine QAt.val (Val.bin rfl rfl rfl) rfl rfl rfl ?_
  rw [wrap_i64 (n := (at' : Int) + (k : Int)) (by omega) (by omega)]
  refine QAt.val (Val.indexSl (o + (at' + k)) (by omega) Tryz.underlying59 Tryz.sizeOf5 rfl rfl (by omega) (by omega)) rfl rfl rfl ?_
  refine QAt.val (Val.loadOld Tryz.isAgg5 rfl hcell hS) rfl rfl rfl ?_
  refine QAt.val (Val.conv Tryz.underlying5 Tryz.underlying32 rfl) rfl rfl rfl ?_
  rw [wrap_u64 (n := (u.toNat : Int)) (by omega) (by have := u.toNat_lt; omega)]
  refine qM rfl rfl ?_
  refine QAt.val (Val.bin rfl rfl rfl) rfl rfl rfl ?_
  rw [wrap_i64 (n := 8 * (k : Int)) (by omega) (by omega)]
  refine QAt.val (Val.shl rfl rfl (by omega)) rfl rfl rfl ?_
  refine QAt.val (Val.bin rfl rfl rfl) rfl rfl rfl ?_
  rw [num_or hu (by omega)]
  refine QAt.val (Val.assign rfl) rfl rfl rfl ?_
  refine QAt.fin ?_
  refine At.blkN ?_
  refine At.thenN ?_
  refine At.region ?_
  refine At.val (Val.bin rfl rfl rfl) rfl rfl rfl ?_
  refine tM rfl rfl ?_
  refine tE ?_
  exact At.again (k + 1) (by omega) (by omega) (Sub.cons rfl (Sub.cons rfl (Sub.cons rfl (Sub.cons rfl (Sub.cons (congrArg (fun z => some (Value.int IntKind.i64 z)) (wrap_i64 (by omega) (by omega))) Sub.nil))))) (List.Perm.refl _)
 ·skip
  have hk : k = n := by have := h1; simp at this; omega
  refine At.exitC ?_
  refine At.thenX ?_
  refine At.thenX ?_
  refine At.blkX ?_
  refine At.thenN ?_
  refine tR ?_
  refine tM rfl rfl ?_
  refine At.val (Val.nilCheck rfl) rfl rfl rfl ?_
  refine At.val (Val.field 1 rfl fo_155_1 rfl) rfl rfl rfl ?_
  refine At.val (Val.load (i := 0) Tryz.isAgg3 rfl rfl rfl) rfl rfl rfl ?_
  refine tM rfl rfl ?_
  refine At.val (Val.bin rfl rfl rfl) rfl rfl rfl ?_
  rw [wrap_i64 (n := (at' : Int) + (n : Int)) (by omega) (by omega)]
  refine At.val (Val.nilCheck rfl) rfl rfl rfl ?_
  refine At.val (Val.field 1 rfl fo_155_1 rfl) rfl rfl rfl ?_
  refine At.store (i := 0) Tryz.sizeOf3 rfl rfl rfl rfl (by simp) ?_
  simp only [sc0, scS]
  refine At.nil ?_
  rw [show ([Value.slice (some ⟨L, o, none⟩) l.length c, Value.int .i64 ((at' : Int) + (n : Int))] : List Value) = eyeC L o l.length c (at' + n) from by simp]
  refine At.thenN ?_
  refine tR ?_
  refine tM rfl rfl ?_
  refine tA rfl rfl ?_
  refine tE ?_
  refine At.retC ?_
  refine At.ret1 (.inl rfl) rfl rfl rfl (fun w hw => ?_)
  exact ⟨by rw [hk], hw⟩
theorem eyeHalf_p (b L o c at' : Nat) (l : List UInt8) (w : World) (hh : Holds w b 155 (eyeC L o l.length c at')) (hb : Bytes w (some ⟨L, o, none⟩) l) (hne : L ≠ b) (hc : l.length ≤ c) (hm : l.length ≤ 140737488355328) (hn : at' + 4 ≤ l.length) :
    Upd Tryz.prog 120 [.pointer (some ⟨b, 0, none⟩)] (blk b 155 (eyeC L o l.length c at')) (.int .i64 (num l at' 4 : Nat)) (blk b 155 (eyeC L o l.length c (at' + 4))) w := by
 refine enter (feet [(blk b 155 (eyeC L o l.length c at'))]) [(blk b 155 (eyeC L o l.length c at'))] Tryz.func120 rfl Tryz.ntmps120 rfl (Rep.one hh) ?_
 simp only [envOf]
 refine tR ?_
 refine tA rfl rfl ?_
 refine tE ?_
 refine tR ?_
 refine tM rfl rfl ?_
 refine At.call1 0 rfl (fun w hw hr => eyeNumber_p b L o c at' 4 l w hr (fun k u hk => by obtain ⟨b', o', h1, h2⟩ := hb k u hk; refine ⟨b', o', h1, hw.oldCell h2 ?_⟩; rintro ⟨r, hr', hx⟩; rcases List.mem_singleton.1 hr' with rfl; simp only [Option.some.injEq, Addr.mk.injEq] at h1; exact hne (h1.1.trans hx)) hne hc hm hn (by decide)) Tryz.call118 rfl rfl ?_
 simp only [sc0, scS]
 refine At.val (Val.conv Tryz.underlying32 Tryz.underlying3 rfl) rfl rfl rfl ?_
 refine tA rfl rfl ?_
 refine tE ?_
 refine At.retC ?_
 refine At.ret1 (.inl rfl) rfl rfl rfl (fun w hw => ?_)
 exact ⟨by rw [wrap_i64 (by omega) (by have := num_lt (l := l) at' 4; omega)], hw⟩
theorem eyeZeros_T (b L o c at' n : Nat) (l : List UInt8) (why : Int) (w : World) (hh : Holds w b 155 (eyeC L o l.length c at')) (hb : Bytes w (some ⟨L, o, none⟩) l) (hne : L ≠ b) (hc : l.length ≤ c) (hm : l.length ≤ 140737488355328) (hn : at' + n ≤ l.length) (hz : allZero ((l.drop at').take n)) :
    Upd Tryz.prog 119 [.pointer (some ⟨b, 0, none⟩), .int .i64 (n : Int), .int .i64 why] (blk b 155 (eyeC L o l.length c at')) (.tuple #[]) (blk b 155 (eyeC L o l.length c (at' + n))) w := by
 refine enter (feet [(blk b 155 (eyeC L o l.length c at'))]) [(blk b 155 (eyeC L o l.length c at'))] Tryz.func119 rfl Tryz.ntmps119 rfl (Rep.one hh) ?_
 have hS : ¬ feet [(blk b 155 (eyeC L o l.length c at'))] L := fun ⟨r, hr, hx⟩ => by rcases List.mem_singleton.1 hr with rfl; exact hne hx
 have hX : ((l.drop at').take n).length = n := by simp; omega
 have hbX := cut_bytes (n := n) hb hc hn
 simp only [envOf]
 refine At.seq ?_
 refine At.seq ?_
 refine At.quiet rfl (by decide +kernel) ?_
 refine qM rfl rfl ?_
 refine QAt.val (Val.nilCheck rfl) rfl rfl rfl ?_
 refine QAt.val (Val.field 0 rfl fo_155_0 rfl) rfl rfl rfl ?_
 refine QAt.val (Val.load (i := 0) Tryz.isAgg59 rfl rfl rfl) rfl rfl rfl ?_
 refine qM rfl rfl ?_
 refine QAt.val (Val.nilCheck rfl) rfl rfl rfl ?_
 refine QAt.val (Val.field 1 rfl fo_155_1 rfl) rfl rfl rfl ?_
 refine QAt.val (Val.load (i := 0) Tryz.isAgg3 rfl rfl rfl) rfl rfl rfl ?_
 refine qM rfl rfl ?_
 refine QAt.val (Val.nilCheck rfl) rfl rfl rfl ?_
 refine QAt.val (Val.field 1 rfl fo_155_1 rfl) rfl rfl rfl ?_
 refine QAt.val (Val.load (i := 0) Tryz.isAgg3 rfl rfl rfl) rfl rfl rfl ?_
 refine qM rfl rfl ?_
 refine QAt.val (Val.bin rfl rfl rfl) rfl rfl rfl ?_
 rw [wrap_i64 (n := (at' : Int) + (n : Int)) (by omega) (by omega)]
 refine QAt.val (Val.cutSl at' (at' + n) (if c = at' then o else o + at' * 1) n (c - at') Tryz.underlying59 Tryz.sizeOf5 rfl ⟨_, _, rfl, by omega, by omega⟩ ⟨_, _, rfl, by omega, by omega⟩ (by omega) (by omega) rfl (by omega) rfl) rfl rfl rfl ?_
 refine QAt.val (Val.len (bt := #[]) Tryz.underlying59 rfl) rfl rfl rfl ?_
 refine qM rfl rfl ?_
 refine QAt.fin ?_
 refine At.thenN ?_
 refine At.block ?_
 skip
 refine At.loop (σ := Nat) (fun k => k ≤ n) (fun k => [(0, .pointer (some ⟨b, 0, none⟩)), (1, .int .i64 (n : Int)), (2, .int .i64 why), (22, .slice (some ⟨L, if c = at' then o else o + at' * 1, none⟩) n (c - at')), (23, .int .i64 (n : Int)), (24, .int .i64 (k : Int))]) (fun k => [blk b 155 (eyeC L o l.length c at')]) (fun k => n - k) 0 (Nat.zero_le _) (Sub.cons rfl (Sub.cons rfl (Sub.cons rfl (Sub.cons rfl (Sub.cons rfl (Sub.cons rfl Sub.nil)))))) (List.Perm.refl _) ?_
 intro k hs
 refine tR ?_
 refine At.val (Val.bin rfl rfl rfl) rfl rfl rfl ?_
 refine tE ?_
 refine At.seq ?_
 refine At.cond rfl (fun h1 => ?_) (fun h1 => ?_)
 ·skip
  have hk : k < n := by have := h1; simp at this; omega
  obtain ⟨u, hu⟩ : ∃ u, ((l.drop at').take n)[k]? = some u := ⟨_, List.getElem?_eq_getElem (by omega)⟩
  obtain ⟨b', o', hbo, hcell⟩ := hbX _ _ hu
  simp only [Option.some.injEq, Addr.mk.injEq] at hbo
  obtain ⟨rfl, rfl, _⟩ := hbo
  refine At.skipC ?_
  refine At.thenN ?_
  refine At.seq ?_
  refine At.block ?_
  refine tR ?_
  refine At.val (Val.indexSl ((if c = at' then o else o + at' * 1) + k) (by omega) Tryz.underlying59 Tryz.sizeOf5 rfl rfl (by omega) (by omega)) rfl rfl rfl ?_
  refine At.val (Val.loadOld Tryz.isAgg5 rfl hcell hS) rfl rfl rfl ?_
  refine tA rfl rfl ?_
  refine tE ?_
  refine At.region ?_
  refine tM rfl rfl ?_
  refine At.val (Val.bin rfl rfl rfl) rfl rfl rfl ?_
  refine tM rfl rfl ?_
  refine At.split (t := 29) rfl (fun h2 => ?_) (fun h2 => ?_)
  ·skip
   have hu0 : u = 0 := zero_byte (by simpa using h2)
   refine At.callP (fun w hw => must_T _ w) Tryz.call116 rfl rfl ?_
   refine At.nil ?_
   refine At.blkN ?_
   refine At.thenN ?_
   refine At.region ?_
   refine At.val (Val.bin rfl rfl rfl) rfl rfl rfl ?_
   refine tM rfl rfl ?_
   refine tE ?_
   exact At.again (k + 1) (by omega) (by omega) (Sub.cons rfl (Sub.cons rfl (Sub.cons rfl (Sub.cons rfl (Sub.cons rfl (Sub.cons (congrArg (fun z => some (Value.int IntKind.i64 z)) (wrap_i64 (by omega) (by omega))) Sub.nil)))))) (List.Perm.refl _)
  ·skip
   rw [allZero_at hu hz] at h2; exact absurd h2 (by decide)
 ·skip
  have hk : k = n := by have := h1; simp at this; omega
  refine At.exitC ?_
  refine At.thenX ?_
  refine At.thenX ?_
  refine At.blkX ?_
  refine At.thenN ?_
  refine At.region ?_
  refine tM rfl rfl ?_
  refine At.val (Val.nilCheck rfl) rfl rfl rfl ?_
  refine At.val (Val.field 1 rfl fo_155_1 rfl) rfl rfl rfl ?_
  refine At.val (Val.load (i := 0) Tryz.isAgg3 rfl rfl rfl) rfl rfl rfl ?_
  refine tM rfl rfl ?_
  refine At.val (Val.bin rfl rfl rfl) rfl rfl rfl ?_
  rw [wrap_i64 (n := (at' : Int) + (n : Int)) (by omega) (by omega)]
  refine At.val (Val.nilCheck rfl) rfl rfl rfl ?_
  refine At.val (Val.field 1 rfl fo_155_1 rfl) rfl rfl rfl ?_
  refine At.store (i := 0) Tryz.sizeOf3 rfl rfl rfl rfl (by simp) ?_
  simp only [sc0, scS]
  refine At.nil ?_
  rw [show ([Value.slice (some ⟨L, o, none⟩) l.length c, Value.int .i64 ((at' : Int) + (n : Int))] : List Value) = eyeC L o l.length c (at' + n) from by simp]
  refine At.ret0 (.inr rfl) rfl rfl  (fun w hw => ?_)
  exact ⟨rfl, hw⟩
theorem eyeZeros_F (b L o c at' n : Nat) (l : List UInt8) (why : Int) (w : World) (hh : Holds w b 155 (eyeC L o l.length c at')) (hb : Bytes w (some ⟨L, o, none⟩) l) (hne : L ≠ b) (hc : l.length ≤ c) (hm : l.length ≤ 140737488355328) (hn : at' + n ≤ l.length) (hz : ¬ allZero ((l.drop at').take n)) :
    Throws1 Tryz.prog 119 [.pointer (some ⟨b, 0, none⟩), .int .i64 (n : Int), .int .i64 why] (blk b 155 (eyeC L o l.length c at')) (brk 164 why) w := by
 refine enter (feet [(blk b 155 (eyeC L o l.length c at'))]) [(blk b 155 (eyeC L o l.length c at'))] Tryz.func119 rfl Tryz.ntmps119 rfl (Rep.one hh) ?_
 have hS : ¬ feet [(blk b 155 (eyeC L o l.length c at'))] L := fun ⟨r, hr, hx⟩ => by rcases List.mem_singleton.1 hr with rfl; exact hne hx
 have hX : ((l.drop at').take n).length = n := by simp; omega
 have hbX := cut_bytes (n := n) hb hc hn
 simp only [envOf]
 refine At.seq ?_
 refine At.seq ?_
 refine At.quiet rfl (by decide +kernel) ?_
 refine qM rfl rfl ?_
 refine QAt.val (Val.nilCheck rfl) rfl rfl rfl ?_
 refine QAt.val (Val.field 0 rfl fo_155_0 rfl) rfl rfl rfl ?_
 refine QAt.val (Val.load (i := 0) Tryz.isAgg59 rfl rfl rfl) rfl rfl rfl ?_
 refine qM rfl rfl ?_
 refine QAt.val (Val.nilCheck rfl) rfl rfl rfl ?_
 refine QAt.val (Val.field 1 rfl fo_155_1 rfl) rfl rfl rfl ?_
 refine QAt.val (Val.load (i := 0) Tryz.isAgg3 rfl rfl rfl) rfl rfl rfl ?_
 refine qM rfl rfl ?_
 refine QAt.val (Val.nilCheck rfl) rfl rfl rfl ?_
 refine QAt.val (Val.field 1 rfl fo_155_1 rfl) rfl rfl rfl ?_
 refine QAt.val (Val.load (i := 0) Tryz.isAgg3 rfl rfl rfl) rfl rfl rfl ?_
 refine qM rfl rfl ?_
 refine QAt.val (Val.bin rfl rfl rfl) rfl rfl rfl ?_
 rw [wrap_i64 (n := (at' : Int) + (n : Int)) (by omega) (by omega)]
 refine QAt.val (Val.cutSl at' (at' + n) (if c = at' then o else o + at' * 1) n (c - at') Tryz.underlying59 Tryz.sizeOf5 rfl ⟨_, _, rfl, by omega, by omega⟩ ⟨_, _, rfl, by omega, by omega⟩ (by omega) (by omega) rfl (by omega) rfl) rfl rfl rfl ?_
 refine QAt.val (Val.len (bt := #[]) Tryz.underlying59 rfl) rfl rfl rfl ?_
 refine qM rfl rfl ?_
 refine QAt.fin ?_
 refine At.thenN ?_
 refine At.block ?_
 skip
 refine At.loop (σ := Nat) (fun k => k ≤ n ∧ allZero (((l.drop at').take n).take k)) (fun k => [(0, .pointer (some ⟨b, 0, none⟩)), (1, .int .i64 (n : Int)), (2, .int .i64 why), (22, .slice (some ⟨L, if c = at' then o else o + at' * 1, none⟩) n (c - at')), (23, .int .i64 (n : Int)), (24, .int .i64 (k : Int))]) (fun k => [blk b 155 (eyeC L o l.length c at')]) (fun k => n - k) 0 ⟨Nat.zero_le _, by simp [allZero]⟩ (Sub.cons rfl (Sub.cons rfl (Sub.cons rfl (Sub.cons rfl (Sub.cons rfl (Sub.cons rfl Sub.nil)))))) (List.Perm.refl _) ?_
 intro k hs
 refine tR ?_
 refine At.val (Val.bin rfl rfl rfl) rfl rfl rfl ?_
 refine tE ?_
 refine At.seq ?_
 refine At.cond rfl (fun h1 => ?_) (fun h1 => ?_)
 ·skip
  have hk : k < n := by have := h1; simp at this; omega
  obtain ⟨u, hu⟩ : ∃ u, ((l.drop at').take n)[k]? = some u := ⟨_, List.getElem?_eq_getElem (by omega)⟩
  obtain ⟨b', o', hbo, hcell⟩ := hbX _ _ hu
  simp only [Option.some.injEq, Addr.mk.injEq] at hbo
  obtain ⟨rfl, rfl, _⟩ := hbo
  refine At.skipC ?_
  refine At.thenN ?_
  refine At.seq ?_
  refine At.block ?_
  refine tR ?_
  refine At.val (Val.indexSl ((if c = at' then o else o + at' * 1) + k) (by omega) Tryz.underlying59 Tryz.sizeOf5 rfl rfl (by omega) (by omega)) rfl rfl rfl ?_
  refine At.val (Val.loadOld Tryz.isAgg5 rfl hcell hS) rfl rfl rfl ?_
  refine tA rfl rfl ?_
  refine tE ?_
  refine At.region ?_
  refine tM rfl rfl ?_
  refine At.val (Val.bin rfl rfl rfl) rfl rfl rfl ?_
  refine tM rfl rfl ?_
  refine At.split (t := 29) rfl (fun h2 => ?_) (fun h2 => ?_)
  ·skip
   have hu0 : u = 0 := zero_byte (by simpa using h2)
   refine At.callP (fun w hw => must_T _ w) Tryz.call116 rfl rfl ?_
   refine At.nil ?_
   refine At.blkN ?_
   refine At.thenN ?_
   refine At.region ?_
   refine At.val (Val.bin rfl rfl rfl) rfl rfl rfl ?_
   refine tM rfl rfl ?_
   refine tE ?_
   exact At.again (k + 1) ⟨by omega, by rw [List.take_add_one, hu]; intro x hx; rcases List.mem_append.1 hx with hx | hx; exact hs.2 x hx; simp at hx; rw [hx, hu0]⟩ (by omega) (Sub.cons rfl (Sub.cons rfl (Sub.cons rfl (Sub.cons rfl (Sub.cons rfl (Sub.cons (congrArg (fun z => some (Value.int IntKind.i64 z)) (wrap_i64 (by omega) (by omega))) Sub.nil)))))) (List.Perm.refl _)
  ·skip
   refine At.callT0 (fun w hw => must_F _ w) Tryz.call116 rfl ?_
   refine At.blkE ?_
   refine At.thenE ?_
   refine At.thenE ?_
   refine At.blkE ?_
   refine At.thenE ?_
   refine At.fail rfl (fun w hw => ?_)
   exact ⟨rfl, hw.drop (List.nil_sublist _)⟩
 ·skip
  have hk : k = n := by have := h1; simp at this; omega
  exact absurd (by have h0 := hs.2; rw [hk, List.take_of_length_le (by rw [hX]; exact Nat.le_refl _)] at h0; exact h0) hz
theorem eyeText_T (b L o c at' : Nat) (l : List UInt8) (s : ByteArray) (why : Int) (w : World) (hh : Holds w b 155 (eyeC L o l.length c at')) (hb : Bytes w (some ⟨L, o, none⟩) l) (hne : L ≠ b) (hc : l.length ≤ c) (hm : l.length ≤ 140737488355328) (hn : at' + s.data.toList.length ≤ l.length) (ht : ((l.drop at').take s.data.toList.length) = s.data.toList) :
    Upd Tryz.prog 117 [.pointer (some ⟨b, 0, none⟩), .string s, .int .i64 why] (blk b 155 (eyeC L o l.length c at')) (.tuple #[]) (blk b 155 (eyeC L o l.length c (at' + s.data.toList.length))) w := by
 refine enter (feet [(blk b 155 (eyeC L o l.length c at'))]) [(blk b 155 (eyeC L o l.length c at'))] Tryz.func117 rfl Tryz.ntmps117 rfl (Rep.one hh) ?_
 have hS : ¬ feet [(blk b 155 (eyeC L o l.length c at'))] L := fun ⟨r, hr, hx⟩ => by rcases List.mem_singleton.1 hr with rfl; exact hne hx
 have hs : s.size = s.data.toList.length := Array.length_toList.symm
 have hX : ((l.drop at').take s.data.toList.length).length = s.data.toList.length := by simp; omega
 have hbX := cut_bytes (n := s.data.toList.length) hb hc hn
 simp only [envOf]
 refine At.seq ?_
 refine At.tail 20 rfl (by decide +kernel) ?_
 simp only [List.take_succ_cons, List.take_zero, List.drop_succ_cons, List.drop_zero]
 refine qM rfl rfl ?_
 refine QAt.val (Val.nilCheck rfl) rfl rfl rfl ?_
 refine QAt.val (Val.field 0 rfl fo_155_0 rfl) rfl rfl rfl ?_
 refine QAt.val (Val.load (i := 0) Tryz.isAgg59 rfl rfl rfl) rfl rfl rfl ?_
 refine qM rfl rfl ?_
 refine QAt.val (Val.nilCheck rfl) rfl rfl rfl ?_
 refine QAt.val (Val.field 1 rfl fo_155_1 rfl) rfl rfl rfl ?_
 refine QAt.val (Val.load (i := 0) Tryz.isAgg3 rfl rfl rfl) rfl rfl rfl ?_
 refine qM rfl rfl ?_
 refine QAt.val (Val.nilCheck rfl) rfl rfl rfl ?_
 refine QAt.val (Val.field 1 rfl fo_155_1 rfl) rfl rfl rfl ?_
 refine QAt.val (Val.load (i := 0) Tryz.isAgg3 rfl rfl rfl) rfl rfl rfl ?_
 refine qM rfl rfl ?_
 refine QAt.val (Val.lenStr Tryz.underlying9 rfl) rfl rfl rfl ?_
 refine QAt.val (Val.bin rfl rfl rfl) rfl rfl rfl ?_
 rw [wrap_i64 (n := (at' : Int) + (s.size : Int)) (by omega) (by omega)]
 refine QAt.val (Val.cutSl at' (at' + s.size) (if c = at' then o else o + at' * 1) s.size (c - at') Tryz.underlying59 Tryz.sizeOf5 rfl ⟨_, _, rfl, by omega, by omega⟩ ⟨_, _, rfl, by omega, by omega⟩ (by omega) (by omega) rfl (by omega) rfl) rfl rfl rfl ?_
 refine QAt.val (Val.strOf (l := ((l.drop at').take s.data.toList.length)) Tryz.underlying59 Tryz.underlying5 Tryz.underlying9 rfl (by rw [hX, hs]) (fun w' hw' k u hk => by obtain ⟨b', o', h1, h2⟩ := hbX k u hk; refine ⟨b', o', h1, hw'.oldCell h2 ?_⟩; simp only [Option.some.injEq, Addr.mk.injEq] at h1; rw [← h1.1]; exact hS)) rfl rfl rfl ?_
 refine qM rfl rfl ?_
 refine QAt.val (Val.seq_ rfl rfl) rfl rfl rfl ?_
 rw [show (ByteArray.toList ⟨((l.drop at').take s.data.toList.length).toArray⟩ == s.toList) = true from by rw [ByteArray.toList_eq, ByteArray.toList_eq]; simpa using ht]
 refine qM rfl rfl ?_
 refine QAt.fin ?_
 refine At.callP (fun w hw => must_T _ w) Tryz.call116 rfl rfl ?_
 refine tE ?_
 refine At.region ?_
 refine tM rfl rfl ?_
 refine At.val (Val.nilCheck rfl) rfl rfl rfl ?_
 refine At.val (Val.field 1 rfl fo_155_1 rfl) rfl rfl rfl ?_
 refine At.val (Val.load (i := 0) Tryz.isAgg3 rfl rfl rfl) rfl rfl rfl ?_
 refine tM rfl rfl ?_
 refine At.val (Val.lenStr Tryz.underlying9 rfl) rfl rfl rfl ?_
 refine At.val (Val.bin rfl rfl rfl) rfl rfl rfl ?_
 rw [wrap_i64 (n := (at' : Int) + (s.size : Int)) (by omega) (by omega)]
 refine At.val (Val.nilCheck rfl) rfl rfl rfl ?_
 refine At.val (Val.field 1 rfl fo_155_1 rfl) rfl rfl rfl ?_
 refine At.store (i := 0) Tryz.sizeOf3 rfl rfl rfl rfl (by simp) ?_
 simp only [sc0, scS]
 refine At.nil ?_
 rw [show ([Value.slice (some ⟨L, o, none⟩) l.length c, Value.int .i64 ((at' : Int) + (s.size : Int))] : List Value) = eyeC L o l.length c (at' + s.data.toList.length) from by rw [hs, ← Int.natCast_add]]
 refine At.ret0 (.inr rfl) rfl rfl  (fun w hw => ?_)
 exact ⟨rfl, hw⟩
theorem eyeText_F (b L o c at' : Nat) (l : List UInt8) (s : ByteArray) (why : Int) (w : World) (hh : Holds w b 155 (eyeC L o l.length c at')) (hb : Bytes w (some ⟨L, o, none⟩) l) (hne : L ≠ b) (hc : l.length ≤ c) (hm : l.length ≤ 140737488355328) (hn : at' + s.data.toList.length ≤ l.length) (ht : ¬ ((l.drop at').take s.data.toList.length) = s.data.toList) :
    Throws1 Tryz.prog 117 [.pointer (some ⟨b, 0, none⟩), .string s, .int .i64 why] (blk b 155 (eyeC L o l.length c at')) (brk 164 why) w := by
 refine enter (feet [(blk b 155 (eyeC L o l.length c at'))]) [(blk b 155 (eyeC L o l.length c at'))] Tryz.func117 rfl Tryz.ntmps117 rfl (Rep.one hh) ?_
 have hS : ¬ feet [(blk b 155 (eyeC L o l.length c at'))] L := fun ⟨r, hr, hx⟩ => by rcases List.mem_singleton.1 hr with rfl; exact hne hx
 have hs : s.size = s.data.toList.length := Array.length_toList.symm
 have hX : ((l.drop at').take s.data.toList.length).length = s.data.toList.length := by simp; omega
 have hbX := cut_bytes (n := s.data.toList.length) hb hc hn
 simp only [envOf]
 refine At.seq ?_
 refine At.tail 20 rfl (by decide +kernel) ?_
 simp only [List.take_succ_cons, List.take_zero, List.drop_succ_cons, List.drop_zero]
 refine qM rfl rfl ?_
 refine QAt.val (Val.nilCheck rfl) rfl rfl rfl ?_
 refine QAt.val (Val.field 0 rfl fo_155_0 rfl) rfl rfl rfl ?_
 refine QAt.val (Val.load (i := 0) Tryz.isAgg59 rfl rfl rfl) rfl rfl rfl ?_
 refine qM rfl rfl ?_
 refine QAt.val (Val.nilCheck rfl) rfl rfl rfl ?_
 refine QAt.val (Val.field 1 rfl fo_155_1 rfl) rfl rfl rfl ?_
 refine QAt.val (Val.load (i := 0) Tryz.isAgg3 rfl rfl rfl) rfl rfl rfl ?_
 refine qM rfl rfl ?_
 refine QAt.val (Val.nilCheck rfl) rfl rfl rfl ?_
 refine QAt.val (Val.field 1 rfl fo_155_1 rfl) rfl rfl rfl ?_
 refine QAt.val (Val.load (i := 0) Tryz.isAgg3 rfl rfl rfl) rfl rfl rfl ?_
 refine qM rfl rfl ?_
 refine QAt.val (Val.lenStr Tryz.underlying9 rfl) rfl rfl rfl ?_
 refine QAt.val (Val.bin rfl rfl rfl) rfl rfl rfl ?_
 rw [wrap_i64 (n := (at' : Int) + (s.size : Int)) (by omega) (by omega)]
 refine QAt.val (Val.cutSl at' (at' + s.size) (if c = at' then o else o + at' * 1) s.size (c - at') Tryz.underlying59 Tryz.sizeOf5 rfl ⟨_, _, rfl, by omega, by omega⟩ ⟨_, _, rfl, by omega, by omega⟩ (by omega) (by omega) rfl (by omega) rfl) rfl rfl rfl ?_
 refine QAt.val (Val.strOf (l := ((l.drop at').take s.data.toList.length)) Tryz.underlying59 Tryz.underlying5 Tryz.underlying9 rfl (by rw [hX, hs]) (fun w' hw' k u hk => by obtain ⟨b', o', h1, h2⟩ := hbX k u hk; refine ⟨b', o', h1, hw'.oldCell h2 ?_⟩; simp only [Option.some.injEq, Addr.mk.injEq] at h1; rw [← h1.1]; exact hS)) rfl rfl rfl ?_
 refine qM rfl rfl ?_
 refine QAt.val (Val.seq_ rfl rfl) rfl rfl rfl ?_
 rw [show (ByteArray.toList ⟨((l.drop at').take s.data.toList.length).toArray⟩ == s.toList) = false from by rw [ByteArray.toList_eq, ByteArray.toList_eq]; simpa using ht]
 refine qM rfl rfl ?_
 refine QAt.fin ?_
 refine At.callT0 (fun w hw => must_F _ w) Tryz.call116 rfl ?_
 refine At.thenE ?_
 refine At.fail rfl (fun w hw => ?_)
 exact ⟨rfl, hw.drop (List.nil_sublist _)⟩
end Go.Proofs.YthhkbbodhghmcaaGreatDoor
set_option linter.unusedVariables false
set_option linter.unusedSimpArgs false
namespace Go.Proofs.YthhkbbodhghmcaaGreatDoor
open Go Go.Wk
theorem take_twoV {l : List UInt8} (a n m : Nat) : (l.drop a).take (n + m) = (l.drop a).take n ++ (l.drop (a + n)).take m := by rw [List.take_add, List.drop_drop]
theorem num_appV {a b m : List UInt8} {n x p : Nat} (e : m = a ++ (le n x ++ b)) (ha : a.length = p) (hx : x < 256 ^ n) : num m p n = x := by
  subst e; unfold num; rw [← ha, List.drop_left, List.take_left' (le_length n x), fromLe_le n x hx]
theorem num_extV {l m : List UInt8} {a n : Nat} (h : ∀ i, a ≤ i → i < a + n → l[i]? = m[i]?) : num l a n = num m a n := by
  unfold num
  congr 1
  apply List.ext_getElem?
  intro i
  rw [List.getElem?_take, List.getElem?_take]
  split
  · rw [List.getElem?_drop, List.getElem?_drop]; exact h _ (by omega) (by omega)
  · rfl
theorem num4_two {l : List UInt8} {a : Nat} (h : a + 4 ≤ l.length) : num l a 4 = num l a 2 + 65536 * num l (a + 2) 2 := by
  unfold num
  rw [show (4 : Nat) = 2 + 2 from rfl, take_twoV a 2 2, fromLe_append, List.length_take, List.length_drop, Nat.min_eq_left (by omega)]
theorem num4_div {l : List UInt8} {a : Nat} (h : a + 4 ≤ l.length) : num l a 4 % 65536 = num l a 2 ∧ num l a 4 / 65536 = num l (a + 2) 2 := by
  have h1 := num_lt (l := l) a 2
  rw [num4_two h]; omega
def svN (l : List UInt8) : Nat := num l 16 4
def svT (l : List UInt8) : BitVec 32 := BitVec.ofNat 32 (num l 8 4)
theorem svT_nat (l : List UInt8) : (svT l).toNat = num l 8 4 := by
  unfold svT; rw [BitVec.toNat_ofNat, Nat.mod_eq_of_lt (by have := num_lt (l := l) 8 4; simpa using this)]
theorem num_svT (l : List UInt8) : Value.int .u32 ((num l 8 4 : Nat) : Int) = b32 (svT l) := by
  show _ = Value.int .u32 ((svT l).toNat : Int); rw [svT_nat]
def spRec (l : List UInt8) (n : Nat) : List (Int × Int) := (List.range n).map fun j => (((num l (24 + 4 * j) 2 : Nat) : Int), ((num l (24 + 4 * j + 2) 2 : Nat) : Int))
theorem spRec_succ (l : List UInt8) (n : Nat) : spRec l (n + 1) = spRec l n ++ [(((num l (24 + 4 * n) 2 : Nat) : Int), ((num l (24 + 4 * n + 2) 2 : Nat) : Int))] := by
  unfold spRec; rw [List.range_succ, List.map_append]; rfl
theorem spRec_length (l : List UInt8) (n : Nat) : (spRec l n).length = n := by unfold spRec; simp
def segV (l : List UInt8) (n : Nat) : List UInt8 := (l.drop 24).take (4 * n)
theorem spB_rec {l : List UInt8} {n : Nat} (h : 24 + 4 * n ≤ l.length) : spB (spRec l n) = segV l n := by
  induction n with
  | zero => simp [spRec, spB, segV]
  | succ n ih =>
    rw [spRec_succ, spB_snoc, ih (by omega)]
    show segV l n ++ le 2 ((num l (24 + 4 * n) 2 : Nat) : Int).toNat ++ le 2 ((num l (24 + 4 * n + 2) 2 : Nat) : Int).toNat = _
    rw [Int.toNat_natCast, Int.toNat_natCast, le_num (by omega), le_num (by omega)]
    unfold segV
    rw [show 4 * (n + 1) = 4 * n + (2 + 2) by omega, take_twoV 24 (4 * n) (2 + 2), take_twoV (24 + 4 * n) 2 2, List.append_assoc]
def sumOf (l : List UInt8) : BitVec 32 := sumOn 0 (l.take 20 ++ segV l (svN l))
def OkSv (l : List UInt8) : Prop := 24 ≤ l.length ∧ (l.drop 0).take 8 = magic ∧ allZero ((l.drop 12).take 4) ∧ svN l ≤ 249 ∧ 24 + 4 * svN l ≤ l.length ∧ num l 20 4 = (sumOf l).toNat ∧ GoodSv (svT l) (spRec l (svN l))
noncomputable instance (l : List UInt8) : Decidable (OkSv l) := Classical.propDecidable _
noncomputable def oT (l : List UInt8) : BitVec 32 := if OkSv l then svT l else 0
noncomputable def oL (l : List UInt8) : List (Int × Int) := if OkSv l then spRec l (svN l) else []
noncomputable def oE (l : List UInt8) : Int := if OkSv l then 0 else 36
theorem oT_yes {l : List UInt8} (h : OkSv l) : oT l = svT l := if_pos h
theorem oL_yes {l : List UInt8} (h : OkSv l) : oL l = spRec l (svN l) := if_pos h
theorem oE_yes {l : List UInt8} (h : OkSv l) : oE l = 0 := if_pos h
theorem oT_no {l : List UInt8} (h : ¬ OkSv l) : oT l = 0 := if_neg h
theorem oL_no {l : List UInt8} (h : ¬ OkSv l) : oL l = [] := if_neg h
theorem oE_no {l : List UInt8} (h : ¬ OkSv l) : oE l = 36 := if_neg h
/-- The bytes of what a record says are the record's. -/
theorem hd20_take {l : List UInt8} (h24 : 24 ≤ l.length) (hm : (l.drop 0).take 8 = magic) (hz : allZero ((l.drop 12).take 4)) : hd20 (svT l) (svN l) = l.take 20 := by
  have e : l.take 20 = (l.drop 0).take 8 ++ (l.drop 8).take 4 ++ (l.drop 12).take 4 ++ (l.drop 16).take 4 := by
    have h1 := take_twoV (l := l) 0 8 12
    have h2 := take_twoV (l := l) 8 4 8
    have h3 := take_twoV (l := l) 12 4 4
    rw [List.drop_zero] at h1
    rw [show (20 : Nat) = 8 + 12 from rfl, h1, show (12 : Nat) = 4 + 8 from rfl, h2, show (8 : Nat) = 4 + 4 from rfl, h3]
    simp only [List.append_assoc, List.drop_zero]
  have hz4 : (l.drop 12).take 4 = zs 4 := by
    have := allZero_eq hz
    rwa [show ((l.drop 12).take 4).length = 4 from by rw [List.length_take, List.length_drop]; omega] at this
  unfold hd20
  rw [e, hm, svT_nat, le_num (by omega), hz4, show le 4 (svN l) = (l.drop 16).take 4 from le_num (by omega)]
theorem svB_take {l : List UInt8} (h : OkSv l) : svB (svT l) (spRec l (svN l)) = l.take (24 + 4 * svN l) ++ pad (svN l) := by
  obtain ⟨h24, hm, hz, hn, hl, hs, hg⟩ := h
  unfold svB svSum
  rw [spRec_length, spB_rec hl, hd20_take h24 hm hz, show sumOn 0 (l.take 20 ++ segV l (svN l)) = sumOf l from rfl, ← hs, le_num (by omega)]
  congr 1
  have h1 := take_twoV (l := l) 0 20 (4 + 4 * svN l)
  have h2 := take_twoV (l := l) 20 4 (4 * svN l)
  rw [List.drop_zero] at h1
  rw [show 24 + 4 * svN l = 20 + (4 + 4 * svN l) by omega, h1, h2, List.append_assoc]
  rfl
theorem sv_same {l : List UInt8} (h : OkSv l) {i : Nat} (hi : i < 24 + 4 * svN l) : (svP (svT l) (spRec l (svN l)))[i]? = l[i]? := by
  rw [svP_T h.2.2.2.2.2.2, svB_take h, List.getElem?_append_left (by rw [List.length_take]; have := h.2.2.2.2.1; omega), List.getElem?_take, if_pos hi]
theorem sv_back {l : List UInt8} (h24 : 24 ≤ l.length) (hn : svN l ≤ 249) (hl : 24 + 4 * svN l ≤ l.length) (hg : GoodSv (svT l) (spRec l (svN l))) (h : ∀ i, i < 24 + 4 * svN l → (svP (svT l) (spRec l (svN l)))[i]? = l[i]?) : OkSv l := by
  rw [svP_T hg] at h
  have cut : ∀ a m, a + m ≤ 24 + 4 * svN l → (l.drop a).take m = ((svB (svT l) (spRec l (svN l))).drop a).take m := fun a m ham => by
    apply List.ext_getElem?
    intro i
    rw [List.getElem?_take, List.getElem?_take]
    split
    · rw [List.getElem?_drop, List.getElem?_drop]; exact (h _ (by omega)).symm
    · rfl
  have eB : svB (svT l) (spRec l (svN l)) = magic ++ (le 4 (svT l).toNat ++ (zs 4 ++ (le 4 (svN l) ++ (le 4 (svSum (svT l) (spRec l (svN l))).toNat ++ (spB (spRec l (svN l)) ++ pad (svN l)))))) := by
    unfold svB hd20; rw [spRec_length]; simp only [List.append_assoc]
  have hm : (l.drop 0).take 8 = magic := by rw [cut 0 8 (by omega), eB, List.drop_zero]; exact List.take_left' rfl
  have hz : allZero ((l.drop 12).take 4) := by
    rw [cut 12 4 (by omega), eB, show (12 : Nat) = 8 + 4 from rfl, ← List.drop_drop, show (8 : Nat) = magic.length from rfl, List.drop_left, List.drop_left' (le_length ..), List.take_left' (zs_length 4)]
    intro c hc; exact List.eq_of_mem_replicate hc
  refine ⟨h24, hm, hz, hn, hl, ?_, hg⟩
  have hs : num l 20 4 = (svSum (svT l) (spRec l (svN l))).toNat := by
    rw [num_extV (m := svB (svT l) (spRec l (svN l))) (fun i _ hi => (h i (by omega)).symm)]
    refine num_appV (a := hd20 (svT l) (svN l)) (b := spB (spRec l (svN l)) ++ pad (svN l)) ?_ (hd20_length ..) (by have := (svSum (svT l) (spRec l (svN l))).isLt; simpa using this)
    unfold svB; rw [spRec_length]; simp only [List.append_assoc]
  rw [hs]
  unfold svSum sumOf
  rw [spRec_length, spB_rec hl, hd20_take h24 hm hz]
theorem cmpV_eq {p l : List UInt8} {k : Nat} {q r : UInt8} (h1 : p[(k : Int).toNat]? = some q) (h2 : l[(k : Int).toNat]? = some r) (e : (q.toNat : Int) = r.toNat) : p[k]? = l[k]? := by
  rw [Int.toNat_natCast] at h1 h2; rw [h1, h2, UInt8.toNat_inj.1 (show q.toNat = r.toNat by omega)]
theorem cmpV_ne {p l : List UInt8} {k : Nat} {q r : UInt8} (h1 : p[(k : Int).toNat]? = some q) (h2 : l[(k : Int).toNat]? = some r) (e : ¬ (q.toNat : Int) = r.toNat) : ¬ p[k]? = l[k]? := fun h => by
  rw [Int.toNat_natCast] at h1 h2; rw [h1, h2] at h; obtain rfl := Option.some.inj h; exact e rfl
theorem openSv_n (v : Value) (l : List UInt8) (w : World) (ht : Tab w) (hv : RdB w v l) (hlen : l.length ≤ 140737488355328) :
    NewRowT Tryz.prog 102 [v] (fun v => .tuple #[.agg #[b32 (oT l), v], .int .i64 (oE l)]) 100 2 (oL l).length (prS (oL l)) w := by
 refine enterD0 Tryz.func102 rfl Tryz.ntmps102 rfl ?_
 have hn8 := num_lt (l := l) 8 4
 have hn16 := num_lt (l := l) 16 4
 have hn20 := num_lt (l := l) 20 4
 simp only [envOf]
 refine tR ?_
 refine At.alloc Tryz.zeroValue90 rfl rfl (fun b1 => ?_)
 refine At.alloc Tryz.zeroValue26 rfl rfl (fun b2 => ?_)
 refine tE ?_
 refine tR ?_
 refine At.defer rfl ?_
 refine tE ?_
 refine tR ?_
 refine tM rfl rfl ?_
 refine At.val (Val.lenRd hv Tryz.underlying59 rfl) rfl rfl rfl ?_
 refine At.val (Val.bin rfl rfl rfl) rfl rfl rfl ?_
 refine At.split (t := 8) rfl (fun h3 => ?_) (fun h3 => ?_)
 ·skip
  try simp only [vN_T, vN_F, nmE_T, nmE_F, wI_T, wI_F, data_T, data_F, ino_T, ino_F, notT, notF, bneT, bneF, beqT, beqF, decT, decF] at h3
  have h24 : 24 ≤ l.length := by omega
  obtain ⟨L, o, c, rfl, hb, hlc, hL⟩ := RdB.some hv (by omega)
  refine At.callP (fun w hw => must_T _ w) Tryz.call116 rfl rfl ?_
  refine tE ?_
  refine tR ?_
  refine tM rfl rfl ?_
  refine At.val (Val.build (fun a ha => by simp only [List.map_toArray, List.map_cons, List.map_nil, ha.eval (x := (.tmp 10)) rfl] <;> rfl) (bld_155_0 _ _ _ )) rfl rfl rfl ?_
  refine At.alloc Tryz.zeroValue155 rfl rfl (fun b4 => ?_)
  refine At.storeAll (i := 0) Tryz.sizeOf155 rfl rfl rfl (by simp [Value.oneCell']) rfl rfl ?_
  simp only [sc0, scS]
  refine At.nil ?_
  rw [show ([Value.slice (some ⟨L, o, none⟩) l.length c, Value.int IntKind.i64 0] : List Value) = eyeC L o l.length c 0 from rfl]
  refine At.thenN ?_
  refine tR ?_
  by_cases hmark : (l.drop 0).take 8 = magic
  ·skip
   refine At.call1 0 rfl (fun w hw hr => eyeText_T _ L o c 0 l ⟨#[70, 85, 82, 82, 79, 87, 83, 86]⟩ 36 w hr (hb.mod hw.mod) (hw.newBlk (i := 0) rfl hL) hlc (by omega) (by show 0 + 8 ≤ _; omega) hmark) Tryz.call117 rfl rfl ?_
   simp only [sc0, scS]
   refine tE ?_
   refine At.seq ?_
   rw [show 0 + (⟨#[70, 85, 82, 82, 79, 87, 83, 86]⟩ : ByteArray).data.toList.length = 8 from rfl]
   refine At.region ?_
   refine At.call1 0 rfl (fun w hw hr => eyeNumber_p _ L o c 8 4 l w hr (hb.mod hw.mod) (hw.newBlk (i := 0) rfl hL) hlc (by omega) (by omega) (by decide)) Tryz.call118 rfl rfl ?_
   simp only [sc0, scS]
   refine At.val (Val.toW Tryz.underlying32 Tryz.underlying76 rfl (by omega) (by omega)) rfl rfl rfl ?_
   rw [num_svT l]
   refine At.val (Val.field 0 rfl fo_90_0 rfl) rfl rfl rfl ?_
   refine At.store (i := 2) Tryz.sizeOf76 rfl rfl rfl rfl (by first | decide | simp) ?_
   simp only [sc0, scS]
   refine At.nil ?_
   rw [show (8 : Nat) + 4 = 12 from rfl]
   refine At.thenN ?_
   refine tR ?_
   by_cases hzero : allZero ((l.drop 12).take 4)
   ·skip
    refine At.call1 0 rfl (fun w hw hr => eyeZeros_T _ L o c 12 4 l 36 w hr (hb.mod hw.mod) (hw.newBlk (i := 0) rfl hL) hlc (by omega) (by omega) hzero) Tryz.call119 rfl rfl ?_
    simp only [sc0, scS]
    refine tE ?_
    refine tR ?_
    refine At.call1 0 rfl (fun w hw hr => eyeHalf_p _ L o c (12 + 4) l w hr (hb.mod hw.mod) (hw.newBlk (i := 0) rfl hL) hlc (by omega) (by omega)) Tryz.call120 rfl rfl ?_
    simp only [sc0, scS]
    refine tA rfl rfl ?_
    refine At.nil ?_
    rw [show (12 : Nat) + 4 = 16 from rfl, show num l 16 4 = svN l from rfl]
    refine At.thenN ?_
    refine tR ?_
    refine tM rfl rfl ?_
    refine At.val (Val.bin rfl rfl rfl) rfl rfl rfl ?_
    refine tM rfl rfl ?_
    refine At.split (t := 20) rfl (fun h5 => ?_) (fun h5 => ?_)
    ·skip
     try simp only [vN_T, vN_F, nmE_T, nmE_F, wI_T, wI_F, data_T, data_F, ino_T, ino_F, notT, notF, bneT, bneF, beqT, beqF, decT, decF] at h5
     refine At.yes rfl rfl ?_
     refine tM rfl rfl ?_
     refine At.yes rfl rfl ?_
     refine At.val (Val.lenRd hv Tryz.underlying59 rfl) rfl rfl rfl ?_
     refine At.yes rfl rfl ?_
     refine tM rfl rfl ?_
     refine At.yes rfl rfl ?_
     first | refine At.val (Val.mulI rfl rfl (by omega) (by omega)) rfl rfl rfl ?_ | refine At.val (Val.bin rfl rfl rfl) rfl rfl rfl ?_
     refine At.yes rfl rfl ?_
     first | refine At.val (Val.addI rfl rfl (by omega) (by omega)) rfl rfl rfl ?_ | refine At.val (Val.bin rfl rfl rfl) rfl rfl rfl ?_
     refine At.yes rfl rfl ?_
     refine At.val (Val.bin rfl rfl rfl) rfl rfl rfl ?_
     refine At.val (Val.pickT rfl rfl) rfl rfl rfl ?_
     refine At.split (t := 27) rfl (fun h6 => ?_) (fun h6 => ?_)
     ·skip
      try simp only [vN_T, vN_F, nmE_T, nmE_F, wI_T, wI_F, data_T, data_F, ino_T, ino_F, notT, notF, bneT, bneF, beqT, beqF, decT, decF] at h6
      have hn249 : svN l ≤ 249 := by omega
      have hl4 : 24 + 4 * svN l ≤ l.length := by omega
      refine At.callP (fun w hw => must_T _ w) Tryz.call116 rfl rfl ?_
      refine tE ?_
      refine tR ?_
      refine At.call1 0 rfl (fun w hw hr => eyeNumber_p _ L o c (16 + 4) 4 l w hr (hb.mod hw.mod) (hw.newBlk (i := 0) rfl hL) hlc (by omega) (by omega) (by decide)) Tryz.call118 rfl rfl ?_
      simp only [sc0, scS]
      skip
      ·skip
       rw [show (16 : Nat) + 4 = 20 from rfl]
       first | refine At.val (Val.toW Tryz.underlying32 Tryz.underlying76 rfl (by omega) (by omega)) rfl rfl rfl ?_ | refine At.val (Val.conv Tryz.underlying32 Tryz.underlying76 rfl) rfl rfl rfl ?_
       refine tM rfl rfl ?_
       refine tM rfl rfl ?_
       refine At.callP (fun w hw => (show PureC _ _ _ (b32 (sumOf l)) w from svSum_p _ l (svN l) w (ht.mod hw.mod) (hv.mod hw.mod) hl4 (by omega))) Tryz.call89 rfl rfl ?_
       refine At.val (Val.bin rfl rfl rfl) rfl rfl rfl ?_
       refine At.split (t := 34) rfl (fun h7 => ?_) (fun h7 => ?_)
       ·skip
        try simp only [vN_T, vN_F, nmE_T, nmE_F, wI_T, wI_F, data_T, data_F, ino_T, ino_F, notT, notF, bneT, bneF, beqT, beqF, decT, decF] at h7
        have hsum : num l 20 4 = (sumOf l).toNat := Int.ofNat.inj h7
        refine At.callP (fun w hw => must_T _ w) Tryz.call116 rfl rfl ?_
        refine At.nil ?_
        rw [show (20 : Nat) + 4 = 24 from rfl]
        refine At.thenN ?_
        refine At.seq ?_
        refine tR ?_
        refine tM rfl rfl ?_
        refine tM rfl rfl ?_
        refine At.nil ?_
        refine At.rowNilS 100 ?_
        refine At.thenN ?_
        refine At.block ?_
        skip
        refine At.loop (σ := Nat × Value) (fun s => s.1 ≤ svN l) (fun s => [(2, .pointer (some ⟨b1, 0, none⟩)), (3, .pointer (some ⟨b2, 0, none⟩)), (4, .pointer (some ⟨b4, 0, none⟩)), (36, .int .i64 (svN l : Int)), (37, .int .i64 (s.1 : Int))]) (fun s => [srow 100 s.2 (spRec l s.1), blk b4 155 (eyeC L o l.length c (24 + 4 * s.1)), blk b2 26 [.int .i64 0], blk b1 90 [b32 (svT l), s.2]]) (fun s => svN l - s.1) (0, .slice none 0 0) (Nat.zero_le _) (Sub.cons rfl (Sub.cons rfl (Sub.cons rfl (Sub.cons rfl (Sub.cons rfl Sub.nil))))) (List.Perm.refl _) ?_
        intro s hs
        obtain ⟨k, vk⟩ := s
        dsimp only at hs ⊢
        have hn2 := num_lt (l := l) (24 + 4 * k) 2
        have hn3 := num_lt (l := l) (24 + 4 * k + 2) 2
        refine tR ?_
        refine At.val (Val.bin rfl rfl rfl) rfl rfl rfl ?_
        refine tE ?_
        refine At.seq ?_
        refine At.cond rfl (fun h8 => ?_) (fun h8 => ?_)
        ·skip
         try simp only [vN_T, vN_F, nmE_T, nmE_F, wI_T, wI_F, data_T, data_F, ino_T, ino_F, notT, notF, bneT, bneF, beqT, beqF, decT, decF] at h8
         have hk : k < svN l := by omega
         refine At.skipC ?_
         refine At.thenN ?_
         refine At.seq ?_
         refine At.block ?_
         apply At.any (t := 10)
         · rfl
         refine KAt.pin (fun w hw => hw.drop (List.Sublist.cons _ (List.Sublist.cons _ (List.Sublist.cons _ (List.Sublist.cons_cons _ (List.Sublist.refl _)))))) ?_
         refine KAt.take 0 (Val.field 1 rfl fo_90_1 rfl) rfl rfl rfl rfl (fun w hw => hw.drop (List.Sublist.cons _ (List.Sublist.cons _ (List.Sublist.cons _ (List.Sublist.cons_cons _ (List.Sublist.refl _)))))) (by decide +kernel) ?_
         refine KAt.take 1 (Val.load (i := 0) Tryz.isAgg35 rfl rfl rfl) rfl rfl rfl rfl (fun w hw => hw.drop (List.Sublist.cons _ (List.Sublist.cons _ (List.Sublist.cons _ (List.Sublist.cons_cons _ (List.Sublist.refl _)))))) (by decide +kernel) ?_
         refine KAt.only 2 rfl (by decide +kernel) ?_
         refine At.call1 1 rfl (fun w hw hr => eyeNumber_p _ L o c (24 + 4 * k) 2 l w hr (hb.mod hw.mod) (hw.newBlk (i := 1) rfl hL) hlc (by omega) (by omega) (by decide)) Tryz.call118 rfl rfl ?_
         simp only [sc0, scS]
         refine At.nil ?_
         refine KAt.go (fun w hw => hw.drop (List.Sublist.cons _ (List.Sublist.cons _ (List.Sublist.cons _ (List.Sublist.cons_cons _ (List.Sublist.refl _)))))) ?_
         first | refine KAt.take 3 (Val.toI Tryz.underlying32 Tryz.underlying3 rfl (by omega) (by omega)) rfl rfl rfl rfl (fun w hw => hw.drop (List.Sublist.cons _ (List.Sublist.cons _ (List.Sublist.cons _ (List.Sublist.cons_cons _ (List.Sublist.refl _)))))) (by decide +kernel) ?_ | refine KAt.take 3 (Val.conv Tryz.underlying32 Tryz.underlying3 rfl) rfl rfl rfl rfl (fun w hw => hw.drop (List.Sublist.cons _ (List.Sublist.cons _ (List.Sublist.cons _ (List.Sublist.cons_cons _ (List.Sublist.refl _)))))) (by decide +kernel) ?_
         refine KAt.only 4 rfl (by decide +kernel) ?_
         refine At.call1 1 rfl (fun w hw hr => eyeNumber_p _ L o c (24 + 4 * k + 2) 2 l w hr (hb.mod hw.mod) (hw.newBlk (i := 1) rfl hL) hlc (by omega) (by omega) (by decide)) Tryz.call118 rfl rfl ?_
         simp only [sc0, scS]
         refine At.nil ?_
         refine KAt.go (fun w hw => hw.drop (List.Sublist.cons _ (List.Sublist.cons _ (List.Sublist.cons _ (List.Sublist.cons_cons _ (List.Sublist.refl _)))))) ?_
         first | refine KAt.take 5 (Val.toI Tryz.underlying32 Tryz.underlying3 rfl (by omega) (by omega)) rfl rfl rfl rfl (fun w hw => hw.drop (List.Sublist.cons _ (List.Sublist.cons _ (List.Sublist.cons _ (List.Sublist.cons_cons _ (List.Sublist.refl _)))))) (by decide +kernel) ?_ | refine KAt.take 5 (Val.conv Tryz.underlying32 Tryz.underlying3 rfl) rfl rfl rfl rfl (fun w hw => hw.drop (List.Sublist.cons _ (List.Sublist.cons _ (List.Sublist.cons _ (List.Sublist.cons_cons _ (List.Sublist.refl _)))))) (by decide +kernel) ?_
         refine KAt.take 6 (Val.build (fun a ha => by simp only [List.map_toArray, List.map_cons, List.map_nil, ha.eval (x := (.tmp 42)) rfl, ha.eval (x := (.tmp 44)) rfl] <;> rfl) (bld_100_0_1 _ _ )) rfl rfl rfl rfl (fun w hw => hw.drop (List.Sublist.cons _ (List.Sublist.cons _ (List.Sublist.cons _ (List.Sublist.cons_cons _ (List.Sublist.refl _)))))) (by decide +kernel) ?_
         refine KAt.only 7 rfl (by decide +kernel) ?_
         refine At.buildSl (fun a ha => by simp only [List.map_toArray, List.map_cons, List.map_nil, ha.eval (x := (.tmp 45)) rfl]; try rfl) (bs_35_1 _ _ ) rfl (fun b9 => ?_)
         refine At.nil ?_
         refine KAt.go (fun w hw => hw.drop (List.Sublist.cons _ (List.Sublist.cons _ (List.Sublist.cons _ (List.Sublist.cons _ (List.Sublist.cons_cons _ (List.Sublist.refl _))))))) ?_
         refine KAt.only 8 rfl (by decide +kernel) ?_
         refine At.appendS1 (i := 1) (j := 0) (by_ := 16) Tryz.underlying35 info_100 rfl rfl rfl rfl rfl rfl rfl rfl (by rw [spRec_length]; omega) (by rw [spRec_length]; omega) rfl (fun v10 => ?_)
         simp only [sc0, scS]
         refine At.drop 0 ?_
         simp only [ec0, ecS]
         refine At.nil ?_
         refine KAt.go (fun w hw => hw.drop (List.Sublist.cons _ (List.Sublist.cons _ (List.Sublist.cons _ (List.Sublist.cons_cons _ (List.Sublist.refl _)))))) ?_
         refine KAt.take 9 (Val.field 1 rfl fo_90_1 rfl) rfl rfl rfl rfl (fun w hw => hw.drop (List.Sublist.cons _ (List.Sublist.cons _ (List.Sublist.cons _ (List.Sublist.cons_cons _ (List.Sublist.refl _)))))) (by decide +kernel) ?_
         refine KAt.only 10 rfl (by decide +kernel) ?_
         refine At.rowOne (i := 0) rfl (fun ho11 => ?_)
         refine At.store (i := 3) Tryz.sizeOf35 rfl rfl ho11 rfl (by first | decide | simp) ?_
         simp only [sc0, scS]
         refine At.nil ?_
         refine KAt.goT rfl ?_
         refine KAt.done (by decide +kernel) ?_
         refine At.blkN ?_
         refine At.thenN ?_
         refine At.region ?_
         first | refine At.val (Val.addI rfl rfl (by omega) (by omega)) rfl rfl rfl ?_ | refine At.val (Val.bin rfl rfl rfl) rfl rfl rfl ?_
         refine tM rfl rfl ?_
         refine tE ?_
         exact At.again (k + 1, v10) (show k + 1 ≤ _ by omega) (by dsimp only; omega) (Sub.cons rfl (Sub.cons rfl (Sub.cons rfl (Sub.cons rfl (Sub.cons (congrArg (fun z => some (Value.int IntKind.i64 z)) (by omega)) Sub.nil))))) (by rw [spRec_succ, show 24 + 4 * (k + 1) = 24 + 4 * k + 2 + 2 from by omega])
        ·skip
         try simp only [vN_T, vN_F, nmE_T, nmE_F, wI_T, wI_F, data_T, data_F, ino_T, ino_F, notT, notF, bneT, bneF, beqT, beqF, decT, decF] at h8
         obtain rfl : k = svN l := by omega
         refine At.exitC ?_
         refine At.thenX ?_
         refine At.thenX ?_
         refine At.blkX ?_
         refine At.thenN ?_
         refine tR ?_
         refine At.val (Val.loadAll (i := 3) Tryz.isAgg90 Tryz.sizeOf90 rfl rfl rfl) rfl rfl rfl ?_
         refine At.callP (fun w hw => goodSv_p (svT l) _ (spRec l (svN l)) w (row_rd (hw.row (i := 0) rfl) (by decide)) (by rw [spRec_length]; omega)) Tryz.call87 rfl rfl ?_
         refine At.split (t := 51) rfl (fun h12 => ?_) (fun h12 => ?_)
         ·skip
          try simp only [vN_T, vN_F, nmE_T, nmE_F, wI_T, wI_F, data_T, data_F, ino_T, ino_F, notT, notF, bneT, bneF, beqT, beqF, decT, decF] at h12
          have hgd : GoodSv (svT l) (spRec l (svN l)) := by simpa using h12
          have hok : OkSv l := ⟨h24, hmark, hzero, hn249, hl4, hsum, hgd⟩
          refine At.callP (fun w hw => must_T _ w) Tryz.call116 rfl rfl ?_
          refine At.nil ?_
          refine At.rowIs (i := 0) rfl (fun A13 c14 hv => ?_)
          subst hv
          refine At.thenN ?_
          refine tR ?_
          refine At.val (Val.loadAll (i := 3) Tryz.isAgg90 Tryz.sizeOf90 rfl rfl rfl) rfl rfl rfl ?_
          refine At.storeAll (i := 3) Tryz.sizeOf90 rfl rfl rfl (by simp [Value.oneCell']) rfl rfl ?_
          simp only [sc0, scS]
          refine At.store (i := 2) Tryz.sizeOf26 rfl rfl rfl rfl (by first | decide | simp) ?_
          simp only [sc0, scS]
          refine tE ?_
          refine At.retC ?_
          refine At.leaveN (.inl rfl) rfl Tryz.call115 (fun w hw => caughtSaved_idle _ _ w) rfl (ResOf.all (i := 3) Tryz.isAgg90 Tryz.sizeOf90 rfl rfl rfl) (ResOf.one (i := 2) Tryz.isAgg26 rfl rfl rfl) (fun w hw => ?_)
          exact ⟨(.slice A13 ((spRec l (svN l)).length) c14), by rw [oE_yes hok, oT_yes hok]; try rfl, by rw [oL_yes hok]; exact (hw.drop (List.singleton_sublist.2 (List.mem_of_getElem? (i := 0) rfl))).f0⟩
         ·skip
          try simp only [vN_T, vN_F, nmE_T, nmE_F, wI_T, wI_F, data_T, data_F, ino_T, ino_F, notT, notF, bneT, bneF, beqT, beqF, decT, decF] at h12
          have hno : ¬ OkSv l := fun h => absurd h.2.2.2.2.2.2 (by simpa using h12)
          refine At.callT0 (fun w hw => must_F _ w) Tryz.call116 rfl ?_
          refine At.thenE ?_
          refine At.leaveP rfl Tryz.call115 ((erase_perm _ 3 _ rfl).trans (List.Perm.cons _ (erase_perm _ 2 _ rfl))) (fun w hw => caughtSaved_pan _ _ _ _ _ w (hw.blk (i := 0) rfl) rfl (hw.blk (i := 1) rfl) hw.ne01) rfl (ResOf.all (i := 0) Tryz.isAgg90 Tryz.sizeOf90 rfl rfl rfl) (ResOf.one (i := 1) Tryz.isAgg26 rfl rfl rfl) (fun w hw => ?_)
          exact ⟨.slice none 0 0, by rw [oE_no hno, oT_no hno]; try rfl, by rw [oL_no hno]; exact ((hw.drop (List.nil_sublist _)).f0).nilRow _ _⟩
       ·skip
        try simp only [vN_T, vN_F, nmE_T, nmE_F, wI_T, wI_F, data_T, data_F, ino_T, ino_F, notT, notF, bneT, bneF, beqT, beqF, decT, decF] at h7
        have hno : ¬ OkSv l := fun h => h7 (congrArg Int.ofNat h.2.2.2.2.2.1)
        refine At.callT0 (fun w hw => must_F _ w) Tryz.call116 rfl ?_
        refine At.thenE ?_
        refine At.leaveP rfl Tryz.call115 ((erase_perm _ 2 _ rfl).trans (List.Perm.cons _ (erase_perm _ 1 _ rfl))) (fun w hw => caughtSaved_pan _ _ _ _ _ w (hw.blk (i := 0) rfl) rfl (hw.blk (i := 1) rfl) hw.ne01) rfl (ResOf.all (i := 0) Tryz.isAgg90 Tryz.sizeOf90 rfl rfl rfl) (ResOf.one (i := 1) Tryz.isAgg26 rfl rfl rfl) (fun w hw => ?_)
        exact ⟨.slice none 0 0, by rw [oE_no hno, oT_no hno]; try rfl, by rw [oL_no hno]; exact ((hw.drop (List.nil_sublist _)).f0).nilRow _ _⟩
     ·skip
      try simp only [vN_T, vN_F, nmE_T, nmE_F, wI_T, wI_F, data_T, data_F, ino_T, ino_F, notT, notF, bneT, bneF, beqT, beqF, decT, decF] at h6
      have hno : ¬ OkSv l := fun h => by have := h.2.2.2.2.1; omega
      refine At.callT0 (fun w hw => must_F _ w) Tryz.call116 rfl ?_
      refine At.thenE ?_
      refine At.leaveP rfl Tryz.call115 ((erase_perm _ 2 _ rfl).trans (List.Perm.cons _ (erase_perm _ 1 _ rfl))) (fun w hw => caughtSaved_pan _ _ _ _ _ w (hw.blk (i := 0) rfl) rfl (hw.blk (i := 1) rfl) hw.ne01) rfl (ResOf.all (i := 0) Tryz.isAgg90 Tryz.sizeOf90 rfl rfl rfl) (ResOf.one (i := 1) Tryz.isAgg26 rfl rfl rfl) (fun w hw => ?_)
      exact ⟨.slice none 0 0, by rw [oE_no hno, oT_no hno]; try rfl, by rw [oL_no hno]; exact ((hw.drop (List.nil_sublist _)).f0).nilRow _ _⟩
    ·skip
     try simp only [vN_T, vN_F, nmE_T, nmE_F, wI_T, wI_F, data_T, data_F, ino_T, ino_F, notT, notF, bneT, bneF, beqT, beqF, decT, decF] at h5
     have hno : ¬ OkSv l := fun h => by have := h.2.2.2.1; omega
     refine At.no rfl rfl rfl rfl ?_
     refine At.no rfl rfl rfl rfl ?_
     refine At.no rfl rfl rfl rfl ?_
     refine At.no rfl rfl rfl rfl ?_
     refine At.no rfl rfl rfl rfl ?_
     refine At.no rfl rfl rfl rfl ?_
     refine At.val (Val.pickF rfl rfl) rfl rfl rfl ?_
     refine At.callT0 (fun w hw => must_F _ w) Tryz.call116 rfl ?_
     refine At.thenE ?_
     refine At.leaveP rfl Tryz.call115 ((erase_perm _ 2 _ rfl).trans (List.Perm.cons _ (erase_perm _ 1 _ rfl))) (fun w hw => caughtSaved_pan _ _ _ _ _ w (hw.blk (i := 0) rfl) rfl (hw.blk (i := 1) rfl) hw.ne01) rfl (ResOf.all (i := 0) Tryz.isAgg90 Tryz.sizeOf90 rfl rfl rfl) (ResOf.one (i := 1) Tryz.isAgg26 rfl rfl rfl) (fun w hw => ?_)
     exact ⟨.slice none 0 0, by rw [oE_no hno, oT_no hno]; try rfl, by rw [oL_no hno]; exact ((hw.drop (List.nil_sublist _)).f0).nilRow _ _⟩
   ·skip
    have hno : ¬ OkSv l := fun h => hzero h.2.2.1
    refine At.callT1 0 rfl (fun w hw hr => eyeZeros_F _ L o c 12 4 l 36 w hr (hb.mod hw.mod) (hw.newBlk (i := 0) rfl hL) hlc (by omega) (by omega) hzero) Tryz.call119 rfl ?_
    simp only [ec0, ecS]
    refine At.thenE ?_
    refine At.leaveP rfl Tryz.call115 ((erase_perm _ 1 _ rfl).trans (List.Perm.cons _ (erase_perm _ 0 _ rfl))) (fun w hw => caughtSaved_pan _ _ _ _ _ w (hw.blk (i := 0) rfl) rfl (hw.blk (i := 1) rfl) hw.ne01) rfl (ResOf.all (i := 0) Tryz.isAgg90 Tryz.sizeOf90 rfl rfl rfl) (ResOf.one (i := 1) Tryz.isAgg26 rfl rfl rfl) (fun w hw => ?_)
    exact ⟨.slice none 0 0, by rw [oE_no hno, oT_no hno]; try rfl, by rw [oL_no hno]; exact ((hw.drop (List.nil_sublist _)).f0).nilRow _ _⟩
  ·skip
   have hno : ¬ OkSv l := fun h => hmark h.2.1
   refine At.callT1 0 rfl (fun w hw hr => eyeText_F _ L o c 0 l ⟨#[70, 85, 82, 82, 79, 87, 83, 86]⟩ 36 w hr (hb.mod hw.mod) (hw.newBlk (i := 0) rfl hL) hlc (by omega) (by show 0 + 8 ≤ _; omega) hmark) Tryz.call117 rfl ?_
   simp only [ec0, ecS]
   refine At.thenE ?_
   refine At.leaveP rfl Tryz.call115 ((erase_perm _ 1 _ rfl).trans (List.Perm.cons _ (erase_perm _ 0 _ rfl))) (fun w hw => caughtSaved_pan _ _ _ _ _ w (hw.blk (i := 0) rfl) rfl (hw.blk (i := 1) rfl) hw.ne01) rfl (ResOf.all (i := 0) Tryz.isAgg90 Tryz.sizeOf90 rfl rfl rfl) (ResOf.one (i := 1) Tryz.isAgg26 rfl rfl rfl) (fun w hw => ?_)
   exact ⟨.slice none 0 0, by rw [oE_no hno, oT_no hno]; try rfl, by rw [oL_no hno]; exact ((hw.drop (List.nil_sublist _)).f0).nilRow _ _⟩
 ·skip
  try simp only [vN_T, vN_F, nmE_T, nmE_F, wI_T, wI_F, data_T, data_F, ino_T, ino_F, notT, notF, bneT, bneF, beqT, beqF, decT, decF] at h3
  have hno : ¬ OkSv l := fun h => by have := h.1; omega
  refine At.callT0 (fun w hw => must_F _ w) Tryz.call116 rfl ?_
  refine At.thenE ?_
  refine At.leaveP rfl Tryz.call115 ((erase_perm _ 1 _ rfl).trans (List.Perm.cons _ (erase_perm _ 0 _ rfl))) (fun w hw => caughtSaved_pan _ _ _ _ _ w (hw.blk (i := 0) rfl) rfl (hw.blk (i := 1) rfl) hw.ne01) rfl (ResOf.all (i := 0) Tryz.isAgg90 Tryz.sizeOf90 rfl rfl rfl) (ResOf.one (i := 1) Tryz.isAgg26 rfl rfl rfl) (fun w hw => ?_)
  exact ⟨.slice none 0 0, by rw [oE_no hno, oT_no hno]; try rfl, by rw [oL_no hno]; exact ((hw.drop (List.nil_sublist _)).f0).nilRow _ _⟩
end Go.Proofs.YthhkbbodhghmcaaGreatDoor
set_option linter.unusedVariables false
set_option linter.unusedSimpArgs false
namespace Go.Proofs.YthhkbbodhghmcaaGreatDoor
open Go Go.Wk
theorem numS_p (v : Value) (l : List UInt8) (a n : Nat) (w : World) (hv : RdB w v l) (hlen : l.length ≤ 140737488355328) (hn : a + n ≤ l.length) (h8 : n ≤ 8) :
    PureC Tryz.prog 97 [v, .int .i64 (a : Int), .int .i64 (n : Int)] (.int .u64 (num l a n : Nat)) w := by
 refine enter0 Tryz.func97 rfl Tryz.ntmps97 rfl ?_
 simp only [envOf]
 refine tR ?_
 refine tA rfl rfl ?_
 refine tE ?_
 refine tR ?_
 refine tA rfl rfl ?_
 refine tE ?_
 refine At.seq ?_
 refine tR ?_
 refine tM rfl rfl ?_
 first | refine At.val (Val.subI rfl rfl (by omega) (by omega)) rfl rfl rfl ?_ | refine At.val (Val.bin rfl rfl rfl) rfl rfl rfl ?_
 refine tA rfl rfl ?_
 refine tE ?_
 refine At.block ?_
 skip
 refine At.loop (σ := Nat) (fun j' => j' ≤ n) (fun j' => [(0, v), (1, .int .i64 (a : Int)), (7, .int .u64 (num l (a + j') (n - j') : Nat)), (8, .int .i64 ((j' : Int) - 1))]) (fun j' => []) (fun j' => j') n (Nat.le_refl _) (Sub.cons rfl (Sub.cons rfl (Sub.cons (congrArg (fun z => some (Value.int IntKind.u64 z)) (by rw [Nat.sub_self, num_zero]; rfl)) (Sub.cons rfl Sub.nil)))) (List.Perm.refl _) ?_
 intro j' hs
 refine At.seq ?_
 refine tR ?_
 refine tM rfl rfl ?_
 refine At.val (Val.bin rfl rfl rfl) rfl rfl rfl ?_
 refine tE ?_
 refine At.cond rfl (fun h1 => ?_) (fun h1 => ?_)
 ·skip
  try simp only [vN_T, vN_F, nmE_T, nmE_F, wI_T, wI_F, data_T, data_F, ino_T, ino_F, notT, notF, bneT, bneF, beqT, beqF, decT, decF] at h1
  obtain ⟨j, rfl⟩ : ∃ j, j' = j + 1 := ⟨j' - 1, by omega⟩
  obtain ⟨u, hu⟩ : ∃ u, l[a + j]? = some u := ⟨_, List.getElem?_eq_getElem (by omega)⟩
  have hnum : num l (a + (j + 1)) (n - (j + 1)) * 256 + u.toNat = num l (a + j) (n - j) := by rw [show n - j = (n - (j + 1)) + 1 by omega, num_cons hu]; rfl
  have hlt : num l (a + j) (n - j) < 18446744073709551616 := Nat.lt_of_lt_of_le (num_lt (l := l) (a + j) (n - j)) (by rw [show (18446744073709551616 : Nat) = 256 ^ 8 from rfl]; exact Nat.pow_le_pow_right (by decide) (by omega))
  refine At.skipC ?_
  refine At.thenN ?_
  refine At.seq ?_
  refine At.block ?_
  refine At.region ?_
  refine tM rfl rfl ?_
  refine At.val (Val.bin rfl rfl rfl) rfl rfl rfl ?_
  rw [wrap_u64 (n := ((num l (a + (j + 1)) (n - (j + 1)) : Nat) : Int) * 256) (by omega) (by omega)]
  refine tM rfl rfl ?_
  refine tM rfl rfl ?_
  refine tM rfl rfl ?_
  first | refine At.val (Val.addI rfl rfl (by omega) (by omega)) rfl rfl rfl ?_ | refine At.val (Val.bin rfl rfl rfl) rfl rfl rfl ?_
  refine At.idxB hv Tryz.underlying59 Tryz.sizeOf5 rfl rfl (by omega) (by omega) rfl rfl (fun b2 o3 q4 hq5 hl6 hc7 => ?_)
  refine At.val (Val.loadOld Tryz.isAgg5 rfl hc7 (fun h => h)) rfl rfl rfl ?_
  refine At.val (Val.conv Tryz.underlying5 Tryz.underlying32 rfl) rfl rfl rfl ?_
  rw [wrap_u64 (n := (q4.toNat : Int)) (by omega) (by have := q4.toNat_lt; omega), show q4 = u from by have h1 := hq5; rw [show ((a : Int) + (((j + 1 : Nat) : Int) - 1)).toNat = a + j by omega, hu] at h1; exact (Option.some.inj h1).symm]
  refine At.val (Val.bin rfl rfl rfl) rfl rfl rfl ?_
  rw [show IntKind.u64.wrap (((num l (a + (j + 1)) (n - (j + 1)) : Nat) : Int) * 256 + (u.toNat : Int)) = ((num l (a + j) (n - j) : Nat) : Int) from by rw [wrap_u64 (by omega) (by omega)]; omega]
  refine tA rfl rfl ?_
  refine At.nil ?_
  refine At.blkN ?_
  refine At.thenN ?_
  refine At.region ?_
  refine tM rfl rfl ?_
  first | refine At.val (Val.subI rfl rfl (by omega) (by omega)) rfl rfl rfl ?_ | refine At.val (Val.bin rfl rfl rfl) rfl rfl rfl ?_
  refine tA rfl rfl ?_
  refine tE ?_
  exact At.again j (by omega) (by omega) (Sub.cons rfl (Sub.cons rfl (Sub.cons rfl (Sub.cons (congrArg (fun z => some (Value.int IntKind.i64 z)) (by omega)) Sub.nil)))) (List.Perm.refl _)
 ·skip
  try simp only [vN_T, vN_F, nmE_T, nmE_F, wI_T, wI_F, data_T, data_F, ino_T, ino_F, notT, notF, bneT, bneF, beqT, beqF, decT, decF] at h1
  have hj0 : j' = 0 := by omega
  subst hj0
  refine At.exitC ?_
  refine At.thenX ?_
  refine At.thenX ?_
  refine At.blkX ?_
  refine At.thenN ?_
  refine tR ?_
  refine tM rfl rfl ?_
  refine tA rfl rfl ?_
  refine tE ?_
  refine At.retC ?_
  refine At.ret1 (.inl rfl) rfl rfl rfl (fun w hw => ?_)
  exact ⟨rfl, hw.mod⟩
theorem fits_p (v : Value) (l : List UInt8) (a n : Int) (w : World) (hv : RdB w v l) (hlen : l.length ≤ 140737488355328) (hn : 0 ≤ n ∧ n ≤ 140737488355328) :
    PureC Tryz.prog 96 [v, .int .i64 a, .int .i64 n] (.bool (decide (0 ≤ a ∧ n ≤ l.length ∧ a ≤ l.length - n))) w := by
 refine enter0 Tryz.func96 rfl Tryz.ntmps96 rfl ?_
 simp only [envOf]
 refine tR ?_
 refine tA rfl rfl ?_
 refine tE ?_
 refine tR ?_
 refine tM rfl rfl ?_
 refine At.val (Val.bin rfl rfl rfl) rfl rfl rfl ?_
 refine tM rfl rfl ?_
 refine At.split (t := 9) rfl (fun h1 => ?_) (fun h1 => ?_)
 ·skip
  try simp only [vN_T, vN_F, nmE_T, nmE_F, wI_T, wI_F, data_T, data_F, ino_T, ino_F, notT, notF, bneT, bneF, beqT, beqF, decT, decF] at h1
  refine At.yes rfl rfl ?_
  refine tM rfl rfl ?_
  refine At.yes rfl rfl ?_
  refine At.val (Val.lenRd hv Tryz.underlying59 rfl) rfl rfl rfl ?_
  refine At.yes rfl rfl ?_
  refine tM rfl rfl ?_
  refine At.yes rfl rfl ?_
  refine At.val (Val.bin rfl rfl rfl) rfl rfl rfl ?_
  refine At.val (Val.pickT rfl rfl) rfl rfl rfl ?_
  refine tM rfl rfl ?_
  refine At.split (t := 15) rfl (fun h2 => ?_) (fun h2 => ?_)
  ·skip
   try simp only [vN_T, vN_F, nmE_T, nmE_F, wI_T, wI_F, data_T, data_F, ino_T, ino_F, notT, notF, bneT, bneF, beqT, beqF, decT, decF] at h2
   refine At.yes rfl rfl ?_
   refine tM rfl rfl ?_
   refine At.yes rfl rfl ?_
   refine tM rfl rfl ?_
   refine At.yes rfl rfl ?_
   refine At.val (Val.lenRd hv Tryz.underlying59 rfl) rfl rfl rfl ?_
   refine At.yes rfl rfl ?_
   refine tM rfl rfl ?_
   refine At.yes rfl rfl ?_
   first | refine At.val (Val.subI rfl rfl (by omega) (by omega)) rfl rfl rfl ?_ | refine At.val (Val.bin rfl rfl rfl) rfl rfl rfl ?_
   refine At.yes rfl rfl ?_
   refine At.val (Val.bin rfl rfl rfl) rfl rfl rfl ?_
   refine At.val (Val.pickT rfl rfl) rfl rfl rfl ?_
   refine tA rfl rfl ?_
   refine tE ?_
   refine At.retC ?_
   refine At.ret1 (.inl rfl) rfl rfl rfl (fun w hw => ?_)
   exact ⟨retB (by first | exact (decide_eq_true (by omega)).symm | exact (decide_eq_false (by omega)).symm | (apply Bool.eq_iff_iff.2; simp only [decide_eq_true_eq]; omega)), hw.mod⟩
  ·skip
   try simp only [vN_T, vN_F, nmE_T, nmE_F, wI_T, wI_F, data_T, data_F, ino_T, ino_F, notT, notF, bneT, bneF, beqT, beqF, decT, decF] at h2
   refine At.no rfl rfl rfl rfl ?_
   refine At.no rfl rfl rfl rfl ?_
   refine At.no rfl rfl rfl rfl ?_
   refine At.no rfl rfl rfl rfl ?_
   refine At.no rfl rfl rfl rfl ?_
   refine At.no rfl rfl rfl rfl ?_
   refine At.val (Val.pickF rfl rfl) rfl rfl rfl ?_
   refine tA rfl rfl ?_
   refine tE ?_
   refine At.retC ?_
   refine At.ret1 (.inl rfl) rfl rfl rfl (fun w hw => ?_)
   exact ⟨retB (by first | exact (decide_eq_true (by omega)).symm | exact (decide_eq_false (by omega)).symm | (apply Bool.eq_iff_iff.2; simp only [decide_eq_true_eq]; omega)), hw.mod⟩
 ·skip
  try simp only [vN_T, vN_F, nmE_T, nmE_F, wI_T, wI_F, data_T, data_F, ino_T, ino_F, notT, notF, bneT, bneF, beqT, beqF, decT, decF] at h1
  refine At.no rfl rfl rfl rfl ?_
  refine At.no rfl rfl rfl rfl ?_
  refine At.no rfl rfl rfl rfl ?_
  refine At.no rfl rfl rfl rfl ?_
  refine At.val (Val.pickF rfl rfl) rfl rfl rfl ?_
  refine tM rfl rfl ?_
  refine At.no rfl rfl rfl rfl ?_
  refine At.no rfl rfl rfl rfl ?_
  refine At.no rfl rfl rfl rfl ?_
  refine At.no rfl rfl rfl rfl ?_
  refine At.no rfl rfl rfl rfl ?_
  refine At.no rfl rfl rfl rfl ?_
  refine At.val (Val.pickF rfl rfl) rfl rfl rfl ?_
  refine tA rfl rfl ?_
  refine tE ?_
  refine At.retC ?_
  refine At.ret1 (.inl rfl) rfl rfl rfl (fun w hw => ?_)
  exact ⟨retB (by first | exact (decide_eq_true (by omega)).symm | exact (decide_eq_false (by omega)).symm | (apply Bool.eq_iff_iff.2; simp only [decide_eq_true_eq]; omega)), hw.mod⟩
theorem wordS_p (v : Value) (l : List UInt8) (a : Nat) (w : World) (hv : RdB w v l) (hlen : l.length ≤ 140737488355328) (hn : a + 8 ≤ l.length) :
    PureC Tryz.prog 56 [v, .int .i64 (a : Int)] (.tuple #[.int .u64 (num l a 8 : Nat), .int .i64 0]) w := by
 refine enter0 Tryz.func56 rfl Tryz.ntmps56 rfl ?_
 simp only [envOf]
 refine tR ?_
 refine tA rfl rfl ?_
 refine tA rfl rfl ?_
 refine tE ?_
 refine At.seq ?_
 refine tR ?_
 refine tM rfl rfl ?_
 refine tM rfl rfl ?_
 refine At.callP (fun w hw => fits_p v l a 8 w (hv.mod hw.mod) hlen (by omega)) Tryz.call96 rfl rfl ?_
 refine At.val (Val.not rfl) rfl rfl rfl ?_
 refine tE ?_
 refine At.cond rfl (fun h1 => ?_) (fun h1 => ?_)
 ·skip
  try simp only [vN_T, vN_F, nmE_T, nmE_F, wI_T, wI_F, data_T, data_F, ino_T, ino_F, notT, notF, bneT, bneF, beqT, beqF, decT, decF] at h1
  exact absurd h1 (by simp; omega)
 ·skip
  try simp only [vN_T, vN_F, nmE_T, nmE_F, wI_T, wI_F, data_T, data_F, ino_T, ino_F, notT, notF, bneT, bneF, beqT, beqF, decT, decF] at h1
  refine At.skipC ?_
  refine At.thenN ?_
  refine tR ?_
  refine tM rfl rfl ?_
  refine tM rfl rfl ?_
  refine At.callP (fun w hw => numS_p v l a 8 w (hv.mod hw.mod) hlen hn (by decide)) Tryz.call97 rfl rfl ?_
  refine tA rfl rfl ?_
  refine tA rfl rfl ?_
  refine tE ?_
  refine At.retC ?_
  refine At.ret2 (.inl rfl) rfl rfl rfl rfl (fun w hw => ?_)
  exact ⟨rfl, hw.mod⟩
end Go.Proofs.YthhkbbodhghmcaaGreatDoor
