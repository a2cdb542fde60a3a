/- Parts of the proof, joined: see the law's text. -/
import Derived.Test.YtfchinibjhcejaaGreatDoorU1
import Derived.ChangeSlices
import Derived.Laws.MakeOwn
import Derived.Laws.OwnMore
import Derived.OrdersHeld
import Derived.Maps.RangeRun
import Derived.ArgAppend
import Derived.Lib.BufferMore
set_option linter.unusedVariables false
set_option linter.unusedSimpArgs false
namespace Go.Wk
open Go Go.ChangeShapes Go.WideShapes Go.ChangeAt Go.RowKit
section
variable {H : Type} {enc : TypeId × Value → H} {P : Program} {W : World} {r : Reach} {base b0 : Nat} {sp : Nat → Bool} {held : Bool}
theorem arg_slice {t e : TypeId} {v : Value} (hu : P.underlying t = some (.slice e)) (h : Value.okWide P W r base t v) : v = .slice none 0 0 ∨ ∃ b o n c, v = .slice (some ⟨b, o, none⟩) n c ∧ n ≤ c := by
  unfold Value.okWide at h
  rw [hu] at h
  unfold Cell.okWide at h
  rw [hu] at h
  unfold Cell.ok at h
  rw [hu] at h
  cases v <;> simp at h
  rename_i A n c
  cases A with
  | none =>
    left
    cases n <;> cases c <;> simp at h ⊢
  | some a =>
    right
    obtain ⟨h1, _, h2⟩ := h
    obtain ⟨b, o, s⟩ := a
    have : s = none := h2.2.1
    subst this
    exact ⟨b, o, n, c, rfl, h1⟩
theorem arg_byteslice {t e : TypeId} {v : Value} {d : DataW H} {ps : List MemPlace} (hu : P.underlying t = some (.slice e)) (he : P.underlying e = some (.int .u8)) (hc : P.cellsOf e = 1) (hby : P.bytesOf e = 1)
    (h : Value.okWide P W r base t v) (hd : DataW.Trod enc P W b0 sp held t v d ps) (hw : (DataW.weights P t d).all (· ≤ reachBytes) = true) :
    ∃ A c l, v = .slice A (l : List UInt8).length c ∧ Bytes W A l ∧ l.length ≤ c ∧ l.length ≤ 140737488351232 ∧ (A = none → l.length = 0 ∧ c = 0) ∧ (∀ a, A = some a → a.spot = none) := by
  obtain ⟨fuel, hf⟩ := hd
  rcases arg_slice hu h with rfl | ⟨b, o, n, c, rfl, hnc⟩
  · exact ⟨none, 0, [], rfl, Bytes.nil _ _, Nat.le_refl _, by decide, (fun _ => ⟨rfl, rfl⟩), (fun a ha => by cases ha)⟩
  · rcases open_ints hu he hc hf with ⟨h0, _⟩ | ⟨a, len, cap, zs, h0, _, hl, _, hz, hx, hcell, hwf⟩
    · simp [Value.cells] at h0
    · simp only [Value.cells, List.cons.injEq, Value.slice.injEq, Option.some.injEq, and_true] at h0
      obtain ⟨rfl, rfl, rfl⟩ := h0
      have hlen : n ≤ zs.length := by rw [hz]; split <;> omega
      simp only [Prod.mk.injEq] at hx
      have hdw : (zs.length) * 1 ≤ reachBytes := by
        have hall := List.all_eq_true.1 hw
        rw [hx.1] at hall
        unfold DataW.weights at hall
        rw [hu] at hall
        have := hall _ (List.mem_cons_self ..)
        simp only [decide_eq_true_eq, hby, lits, List.length_map] at this
        rw [← List.length_append, List.take_append_drop] at this
        exact this
      have hb : ∀ x ∈ zs, ∃ q : UInt8, x = (q.toNat : Int) := fun x hx => by
        have := hwf x hx
        exact hasU8 (by simpa [Lit.wf, IntKind.has] using this)
      refine ⟨some ⟨b, o, none⟩, c, (zs.take n).map (fun z => UInt8.ofNat z.toNat), ?_, ?_, ?_, ?_, (fun h => by cases h), (fun a ha => by cases ha; rfl)⟩
      · rw [List.length_map, List.length_take, Nat.min_eq_left hlen]
      · intro k u hk
        have hk' : k < n := by have := (List.getElem?_eq_some_iff.1 hk).1; simp at this; omega
        refine ⟨b, o, rfl, ?_⟩
        have h1 := hcell k (by omega)
        rw [Addr.add_off] at h1
        rw [h1]
        have hkz : k < zs.length := by omega
        rw [List.getElem?_map, List.getElem?_take, if_pos hk', List.getElem?_eq_getElem hkz] at hk
        have hu' : UInt8.ofNat zs[k].toNat = u := by simpa using hk
        have hg : zs.getD k 0 = zs[k] := by simp [List.getD, hkz]
        obtain ⟨q, hq⟩ := hb zs[k] (List.getElem_mem hkz)
        rw [hg, ← hu', hq]
        simp
      · rw [List.length_map, List.length_take]; omega
      · rw [List.length_map, List.length_take]; unfold reachBytes at hdw; omega
end
end Go.Wk
namespace Go.Wk
open Go
def okc (c : UInt8) : Bool := !(c == 0) && !(c == 47)
def validB (s : ByteArray) : Bool := !(s.data.toList.isEmpty) && decide (s.size ≤ 28) && !(s.data.toList == [46]) && !(s.data.toList == [46, 46]) && s.data.toList.all okc
theorem size_len (s : ByteArray) : s.data.toList.length = s.size := Array.length_toList
end Go.Wk
namespace Go.Wk
open Go
section
variable {P : Program} {Γ : Ctx} {E : Env} {H : List Res} {ops : Array Oper} {Q : Exit → Act → World → Prop} {rest : List Oper}
  {d : Nat} {dst : Option Tmp} {g : Option (Nat × Bool)} {ty : TypeId} {pos : String} {after : Array Edge} {x y z : Operand} {v u : Value} {ψ : Act → Prop}
theorem Val.addI {t t' : TypeId} {a b : Int} (hx : ev E x = some (.int .i64 a)) (hy : ev E y = some (.int .i64 b)) (h0 : -9223372036854775808 ≤ a + b) (h1 : a + b ≤ 9223372036854775807) :
    Val P Γ E H ⟨dst, .binOp .add t x y t', ty, pos, after, g⟩ (.int .i64 (a + b)) := by
  have := Val.bin (P := P) (Γ := Γ) (H := H) (dst := dst) (g := g) (ty := ty) (pos := pos) (after := after) (t := t) (t' := t') (op := .add) hx hy rfl
  rwa [wrap_i64 h0 h1] at this
theorem Val.subI {t t' : TypeId} {a b : Int} (hx : ev E x = some (.int .i64 a)) (hy : ev E y = some (.int .i64 b)) (h0 : -9223372036854775808 ≤ a - b) (h1 : a - b ≤ 9223372036854775807) :
    Val P Γ E H ⟨dst, .binOp .sub t x y t', ty, pos, after, g⟩ (.int .i64 (a - b)) := by
  have := Val.bin (P := P) (Γ := Γ) (H := H) (dst := dst) (g := g) (ty := ty) (pos := pos) (after := after) (t := t) (t' := t') (op := .sub) hx hy rfl
  rwa [wrap_i64 h0 h1] at this
theorem Val.mulI {t t' : TypeId} {a b : Int} (hx : ev E x = some (.int .i64 a)) (hy : ev E y = some (.int .i64 b)) (h0 : -9223372036854775808 ≤ a * b) (h1 : a * b ≤ 9223372036854775807) :
    Val P Γ E H ⟨dst, .binOp .mul t x y t', ty, pos, after, g⟩ (.int .i64 (a * b)) := by
  have := Val.bin (P := P) (Γ := Γ) (H := H) (dst := dst) (g := g) (ty := ty) (pos := pos) (after := after) (t := t) (t' := t') (op := .mul) hx hy rfl
  rwa [wrap_i64 h0 h1] at this
theorem Val.quoI {t t' : TypeId} {a b : Int} (hx : ev E x = some (.int .i64 a)) (hy : ev E y = some (.int .i64 b)) (ha : 0 ≤ a) (ha' : a ≤ 9223372036854775807) (hb : 0 < b) :
    Val P Γ E H ⟨dst, .binOp .quo t x y t', ty, pos, after, g⟩ (.int .i64 (a / b)) := by
  have := Val.quo (P := P) (Γ := Γ) (H := H) (dst := dst) (g := g) (ty := ty) (pos := pos) (after := after) (t := t) (t' := t') hx hy (by omega)
  have h1 : 0 ≤ a / b := Int.ediv_nonneg ha (by omega)
  have h2 : a / b ≤ a := Int.ediv_le_self b ha
  rwa [Int.tdiv_eq_ediv_of_nonneg ha, wrap_i64 (by omega) (by omega)] at this
theorem Val.remI {t t' : TypeId} {k : IntKind} {a b : Int} (hx : ev E x = some (.int k a)) (hy : ev E y = some (.int k b)) (ha : 0 ≤ a) (hb : 0 < b) :
    Val P Γ E H ⟨dst, .binOp .rem t x y t', ty, pos, after, g⟩ (.int k (a % b)) := by
  have := Val.rem (P := P) (Γ := Γ) (H := H) (dst := dst) (g := g) (ty := ty) (pos := pos) (after := after) (t := t) (t' := t') hx hy (by omega)
  rwa [Int.tmod_eq_emod_of_nonneg ha] at this
theorem Val.toI {s t : TypeId} {ds : TypeDesc} {k' : IntKind} {b : Int} (hs : P.underlying s = some ds) (ht : P.underlying t = some (.int .i64)) (hx : ev E x = some (.int k' b)) (h0 : -9223372036854775808 ≤ b) (h1 : b ≤ 9223372036854775807) :
    Val P Γ E H ⟨dst, .convert s t x, ty, pos, after, g⟩ (.int .i64 b) := by
  have := Val.conv (P := P) (Γ := Γ) (H := H) (dst := dst) (g := g) (ty := ty) (pos := pos) (after := after) hs ht hx
  rwa [wrap_i64 h0 h1] at this
theorem Val.toU {s t : TypeId} {ds : TypeDesc} {k' : IntKind} {b : Int} (hs : P.underlying s = some ds) (ht : P.underlying t = some (.int .u64)) (hx : ev E x = some (.int k' b)) (h0 : 0 ≤ b) (h1 : b < 18446744073709551616) :
    Val P Γ E H ⟨dst, .convert s t x, ty, pos, after, g⟩ (.int .u64 b) := by
  have := Val.conv (P := P) (Γ := Γ) (H := H) (dst := dst) (g := g) (ty := ty) (pos := pos) (after := after) hs ht hx
  rwa [wrap_u64 h0 h1] at this
def Rd (w : World) (v : Value) (sz n : Nat) (xs : List Value) : Prop :=
  ∃ A c, v = .slice A n c ∧ Cells w A xs ∧ xs.length = n * sz ∧ n ≤ c ∧ (A = none → n = 0 ∧ c = 0) ∧ (0 < c → ∀ a, A = some a → a.spot = none)
abbrev RdB (w : World) (v : Value) (l : List UInt8) : Prop := Rd w v 1 l.length (l.map bv)
theorem Rd.mod {w w' : World} {sz n : Nat} {xs : List Value} (h : Rd w v sz n xs) (hm : Mod (fun _ => False) w w') : Rd w' v sz n xs := by
  obtain ⟨A, c, h1, h2, h3⟩ := h
  exact ⟨A, c, h1, h2.mod hm, h3⟩
def Off (v : Value) (xs : List Value) (S : Nat → Prop) : Prop := xs ≠ [] → ∀ b o s n c, v = .slice (some ⟨b, o, s⟩) n c → ¬ S b
theorem Off.none (v : Value) (xs : List Value) : Off v xs (fun _ => False) := fun _ _ _ _ _ _ _ h => h
theorem Rd.keep {w0 : World} {S : Nat → Prop} {w : World} {sz n : Nat} {xs : List Value} (h : Rd w0 v sz n xs) (hw : Rep w0 S H w) (ho : Off v xs S) : Rd w v sz n xs := by
  obtain ⟨A, c, h1, h2, h3⟩ := h
  refine ⟨A, c, h1, fun j u hj => ?_, h3⟩
  obtain ⟨b, o, e, hc⟩ := h2 j u hj
  exact ⟨b, o, e, hw.oldCell hc (ho (fun h0 => by rw [h0] at hj; cases hj) b o _ n c (by rw [h1, e]))⟩
theorem Rd.nil (w : World) (sz : Nat) : Rd w (.slice none 0 0) sz 0 [] := ⟨none, 0, rfl, (fun j u h => by cases h), by simp, Nat.le_refl _, (fun _ => ⟨rfl, rfl⟩), (fun _ a h => by cases h)⟩
theorem row_rd {w : World} {e sz n : Nat} {xs : List Value} (h : w.ownsRow 0 e sz v n xs) (hsz : 0 < sz) : Rd w v sz n xs := by
  have hl : xs.length = n * sz := h.1
  rcases h.2 with ⟨rfl, rfl⟩ | ⟨b, cap, cur, rfl, h1⟩
  · have : xs = [] := List.eq_nil_of_length_eq_zero (by simpa using hl)
    subst this
    exact Rd.nil w sz
  · exact ⟨_, cap, rfl, row_cells h hsz, hl, by have := h1; omega, (fun h => by cases h), (fun _ a h => by cases h; rfl)⟩
theorem Rd.bytes {w : World} {l : List UInt8} (h : RdB w v l) : ∃ A c, v = .slice A l.length c ∧ Bytes w A l ∧ l.length ≤ c ∧ (A = none → l.length = 0 ∧ c = 0) ∧ (0 < c → ∀ a, A = some a → a.spot = none) := by
  obtain ⟨A, c, h1, h2, h3, h4⟩ := h
  refine ⟨A, c, h1, fun k q hk => ?_, h4⟩
  exact h2 k (bv q) (by rw [List.getElem?_map, hk]; rfl)
theorem Bytes.rd {w : World} {A : Option Addr} {l : List UInt8} {c : Nat} (h : Bytes w A l) (h1 : l.length ≤ c) (h2 : A = none → l.length = 0 ∧ c = 0) (h3 : ∀ a, A = some a → a.spot = none) : RdB w (.slice A l.length c) l :=
  ⟨A, c, rfl, h.cells, by simp, h1, h2, fun _ => h3⟩
theorem Val.lenRd {t el sz n : Nat} {w : World} {xs : List Value} (h : Rd w v sz n xs) (hu : P.underlying t = some (.slice el)) (hx : ev E x = some v) :
    Val P Γ E H ⟨dst, .call { callee := .builtin .len, args := #[x], argTypes := #[t] }, ty, pos, after, g⟩ (.int .i64 n) := by
  obtain ⟨A, c, rfl, _⟩ := h
  exact Val.len (bt := #[]) hu hx
theorem Rd.at {w : World} {sz n : Nat} {xs : List Value} {j : Nat} (h : Rd w v sz n xs) (hj : j < n) :
    ∃ b o c, v = .slice (some ⟨b, o, none⟩) n c ∧ ∀ i q, xs[j * sz + i]? = some q → w.cell? ⟨b, o + j * sz + i, none⟩ = some q := by
  obtain ⟨A, c, rfl, h2, h3, h4, h5, h6⟩ := h
  cases A with
  | none => have := (h5 rfl).1; omega
  | some a =>
    obtain ⟨b, o, s⟩ := a
    have : s = none := h6 (by omega) _ rfl
    subst this
    refine ⟨b, o, c, rfl, fun i q hq => ?_⟩
    obtain ⟨b', o', e, hc⟩ := h2 _ _ hq
    simp only [Option.some.injEq, Addr.mk.injEq] at e
    obtain ⟨rfl, rfl, _⟩ := e
    rw [Nat.add_assoc]; exact hc
theorem At.idxRd {t el sz n : Nat} {xs : List Value} {k : IntKind} {j : Int} (h : Rd Γ.w0 v sz n xs) (hu : P.underlying t = some (.slice el)) (hs : ∀ w, (sizeOf el).run P w = .ok sz w) (hx : ev E x = some v) (hy : ev E y = some (.int k j)) (h0 : 0 ≤ j) (h1 : j < n)
    (hg : g = none) (hn : Nat.blt d Γ.n = true)
    (c : ∀ b o, (∀ i q, xs[j.toNat * sz + i]? = some q → Γ.w0.cell? ⟨b, o + i, none⟩ = some q) → At Γ ((d, .pointer (some ⟨b, o, none⟩)) :: E) H (wpList P ops Q rest)) :
    At Γ E H (wpList P ops Q ({ dst := some d, op := .indexAddr t x y, type := ty, pos, after, guard := g } :: rest)) := by
  obtain ⟨b, o, cap, rfl, hc⟩ := h.at (j := j.toNat) (by omega)
  exact At.val (Val.indexSl _ rfl hu hs hx hy h0 h1) hg rfl hn (c b _ hc)
theorem QAt.idxRd {t el sz n : Nat} {xs : List Value} {k : IntKind} {j : Int} (h : Rd Γ.w0 v sz n xs) (hu : P.underlying t = some (.slice el)) (hs : ∀ w, (sizeOf el).run P w = .ok sz w) (hx : ev E x = some v) (hy : ev E y = some (.int k j)) (h0 : 0 ≤ j) (h1 : j < n)
    (hg : g = none) (hn : Nat.blt d Γ.n = true)
    (c : ∀ b o, (∀ i q, xs[j.toNat * sz + i]? = some q → Γ.w0.cell? ⟨b, o + i, none⟩ = some q) → QAt P Γ ops ((d, .pointer (some ⟨b, o, none⟩)) :: E) H rest ψ) :
    QAt P Γ ops E H ({ dst := some d, op := .indexAddr t x y, type := ty, pos, after, guard := g } :: rest) ψ := by
  obtain ⟨b, o, cap, rfl, hc⟩ := h.at (j := j.toNat) (by omega)
  exact QAt.val (Val.indexSl _ rfl hu hs hx hy h0 h1) hg rfl hn (c b _ hc)
theorem At.idxB {t el : Nat} {l : List UInt8} {k : IntKind} {j : Int} (h : RdB Γ.w0 v l) (hu : P.underlying t = some (.slice el)) (hs : ∀ w, (sizeOf el).run P w = .ok 1 w) (hx : ev E x = some v) (hy : ev E y = some (.int k j)) (h0 : 0 ≤ j) (h1 : j < l.length)
    (hg : g = none) (hn : Nat.blt d Γ.n = true)
    (c : ∀ b o q, l[j.toNat]? = some q → q.toNat < 256 → Γ.w0.cell? ⟨b, o, none⟩ = some (bv q) → At Γ ((d, .pointer (some ⟨b, o, none⟩)) :: E) H (wpList P ops Q rest)) :
    At Γ E H (wpList P ops Q ({ dst := some d, op := .indexAddr t x y, type := ty, pos, after, guard := g } :: rest)) :=
  At.idxRd h hu hs hx hy h0 h1 hg hn fun b o hc => by
    have hq : l[j.toNat]? = some (l[j.toNat]'(by omega)) := List.getElem?_eq_getElem _
    exact c b o _ hq (UInt8.toNat_lt _) (hc 0 _ (by rw [Nat.mul_one, Nat.add_zero, List.getElem?_map, hq]; rfl))
theorem QAt.idxB {t el : Nat} {l : List UInt8} {k : IntKind} {j : Int} (h : RdB Γ.w0 v l) (hu : P.underlying t = some (.slice el)) (hs : ∀ w, (sizeOf el).run P w = .ok 1 w) (hx : ev E x = some v) (hy : ev E y = some (.int k j)) (h0 : 0 ≤ j) (h1 : j < l.length)
    (hg : g = none) (hn : Nat.blt d Γ.n = true)
    (c : ∀ b o q, l[j.toNat]? = some q → q.toNat < 256 → Γ.w0.cell? ⟨b, o, none⟩ = some (bv q) → QAt P Γ ops ((d, .pointer (some ⟨b, o, none⟩)) :: E) H rest ψ) :
    QAt P Γ ops E H ({ dst := some d, op := .indexAddr t x y, type := ty, pos, after, guard := g } :: rest) ψ :=
  QAt.idxRd h hu hs hx hy h0 h1 hg hn fun b o hc => by
    have hq : l[j.toNat]? = some (l[j.toNat]'(by omega)) := List.getElem?_eq_getElem _
    exact c b o _ hq (UInt8.toNat_lt _) (hc 0 _ (by rw [Nat.mul_one, Nat.add_zero, List.getElem?_map, hq]; rfl))
def cutA : Option Addr → Nat → Nat → Nat → Option Addr
  | some ⟨b, o, s⟩, c, l, sz => some ⟨b, if c = l then o else o + l * sz, s⟩
  | none, _, _, _ => none
theorem At.idxRowB {i t el e : Nat} {l : List UInt8} {k : IntKind} {j : Int} (hi : H[i]? = some (rowR v e 1 l.length (l.map bv))) (hu : P.underlying t = some (.slice el)) (hs : ∀ w, (sizeOf el).run P w = .ok 1 w) (hx : ev E x = some v) (hy : ev E y = some (.int k j)) (h0 : 0 ≤ j) (h1 : j < l.length)
    (hg : g = none) (hn : Nat.blt d Γ.n = true)
    (c : ∀ q, l[j.toNat]? = some q → q.toNat < 256 → At Γ ((d, .pointer (some ⟨rowB v, j.toNat, none⟩)) :: E) H (wpList P ops Q rest)) :
    At Γ E H (wpList P ops Q ({ dst := some d, op := .indexAddr t x y, type := ty, pos, after, guard := g } :: rest)) :=
  At.val (Val.indexRow (i := i) _ (by omega) hu hs hx hy hi h0 h1) hg rfl hn (c _ (List.getElem?_eq_getElem (by omega)) (UInt8.toNat_lt _))
theorem QAt.idxRowB {i t el e : Nat} {l : List UInt8} {k : IntKind} {j : Int} (hi : H[i]? = some (rowR v e 1 l.length (l.map bv))) (hu : P.underlying t = some (.slice el)) (hs : ∀ w, (sizeOf el).run P w = .ok 1 w) (hx : ev E x = some v) (hy : ev E y = some (.int k j)) (h0 : 0 ≤ j) (h1 : j < l.length)
    (hg : g = none) (hn : Nat.blt d Γ.n = true)
    (c : ∀ q, l[j.toNat]? = some q → q.toNat < 256 → QAt P Γ ops ((d, .pointer (some ⟨rowB v, j.toNat, none⟩)) :: E) H rest ψ) :
    QAt P Γ ops E H ({ dst := some d, op := .indexAddr t x y, type := ty, pos, after, guard := g } :: rest) ψ :=
  QAt.val (Val.indexRow (i := i) _ (by omega) hu hs hx hy hi h0 h1) hg rfl hn (c _ (List.getElem?_eq_getElem (by omega)) (UInt8.toNat_lt _))
theorem Val.loadRowB {i t e q : Nat} {l : List UInt8} {c : UInt8} (hA : ∀ w, (isAgg t).run P w = .ok false w) (hx : ev E x = some (.pointer (some ⟨rowB v, q, none⟩))) (hi : H[i]? = some (rowR v e 1 l.length (l.map bv))) (hv : l[q]? = some c) :
    Val P Γ E H ⟨dst, .load t x, ty, pos, after, g⟩ (bv c) := Val.loadRow hA hx hi (by rw [List.getElem?_map, hv]; rfl)
theorem brow_set (e : Nat) (v : Value) (l : List UInt8) (j : Nat) (c : UInt8) : rowR v e 1 l.length ((l.map bv).set j (bv c)) = brow e v (l.set j c) := by simp [brow, List.map_set]
theorem Rd.cut {w : World} {sz n l h : Nat} {A : Option Addr} {c : Nat} {xs : List Value} (hr : Rd w (.slice A n c) sz n xs) (h1 : l ≤ h) (h2 : h ≤ n) :
    Rd w (.slice (cutA A c l sz) (h - l) (c - l)) sz (h - l) ((xs.drop (l * sz)).take ((h - l) * sz)) := by
  obtain ⟨A', c', e, g2, g3, g4, g5, g6⟩ := hr
  simp only [Value.slice.injEq, true_and] at e
  obtain ⟨rfl, rfl⟩ := e
  have hle : h * sz ≤ n * sz := Nat.mul_le_mul_right _ h2
  have hs : (h - l) * sz = h * sz - l * sz := Nat.sub_mul ..
  have hl' : l * sz ≤ h * sz := Nat.mul_le_mul_right _ h1
  refine ⟨_, _, rfl, fun j u hj => ?_, by rw [List.length_take, List.length_drop, g3]; omega, by omega, fun h0 => ?_, fun hc0 a ha => ?_⟩
  · rw [List.getElem?_take] at hj
    split at hj
    · rename_i hlt
      rw [List.getElem?_drop] at hj
      obtain ⟨b, o, rfl, hc⟩ := g2 _ _ hj
      refine ⟨b, _, rfl, ?_⟩
      by_cases hcl : c = l
      · exfalso
        have : h - l = 0 := by omega
        rw [this] at hlt; simp at hlt
      · rw [if_neg hcl, Nat.add_assoc]; exact hc
    · cases hj
  · cases A with
    | none => have := g5 rfl; omega
    | some a => cases h0
  · cases A with
    | none => cases ha
    | some a' =>
      obtain ⟨b, o, s⟩ := a'
      have := g6 (by omega) _ rfl
      have ha' := Option.some.inj ha
      subst ha'; exact this
theorem RdB.cut {w : World} {l h : Nat} {A : Option Addr} {c : Nat} {bs : List UInt8} (hr : RdB w (.slice A bs.length c) bs) (h1 : l ≤ h) (h2 : h ≤ bs.length) :
    RdB w (.slice (cutA A c l 1) (h - l) (c - l)) ((bs.drop l).take (h - l)) := by
  have := Rd.cut hr h1 h2
  simp only [Nat.mul_one, ← List.map_drop, ← List.map_take] at this
  have e : ((bs.drop l).take (h - l)).length = h - l := by rw [List.length_take, List.length_drop]; omega
  unfold RdB
  rw [e]
  exact this
theorem run_cutNil {t el n : Nat} {a : Act} {nn : Nat} {D : List Deferred} (ha : Agrees nn D E a) {lo hi : Option Operand} {l h : Nat} (hu : P.underlying t = some (.slice el)) (hs : ∀ w, (sizeOf el).run P w = .ok n w) (hx : ev E x = some (.slice none 0 0)) (hl : Bd E lo 0 l) (hh : Bd E hi 0 h) (h1 : l ≤ h) (h2 : h ≤ 0) (w : World) :
    (execOp a.eval ⟨dst, .slice t x lo hi .none, ty, pos, after, g⟩).run P w = .ok (.value (.slice none (h - l) (0 - l))) w := by
  have hr := run_sliceBounds (P := P) ha (is := true) hl hh h1 h2 w
  simp only [execOp, ha.eval hx, Sem.run_bind, Instr.sliceAt, run_underlying hu, Result.andThen_ok, Instr.slice, Sem.run_pure, Option.map_none, hr, hs]
  first | (split <;> simp) | simp
theorem Val.cutRd {t el n c l h sz : Nat} {A : Option Addr} {xs : List Value} {w : World} {lo hi : Option Operand} (hr : Rd w (.slice A n c) sz n xs) (hu : P.underlying t = some (.slice el)) (hs : ∀ w, (sizeOf el).run P w = .ok sz w)
    (hx : ev E x = some (.slice A n c)) (hl : Bd E lo 0 l) (hh : Bd E hi n h) (h1 : l ≤ h) (h2 : h ≤ n) :
    Val P Γ E H ⟨dst, .slice t x lo hi .none, ty, pos, after, g⟩ (.slice (cutA A c l sz) (h - l) (c - l)) := by
  obtain ⟨A', c', e, g2, g3, g4, g5, g6⟩ := hr
  simp only [Value.slice.injEq, true_and] at e
  obtain ⟨rfl, rfl⟩ := e
  cases A with
  | none =>
    obtain ⟨rfl, rfl⟩ := g5 rfl
    exact fun a w ha _ => run_cutNil ha hu hs hx hl hh h1 h2 w
  | some a =>
    obtain ⟨b, o, s⟩ := a
    rcases Nat.eq_zero_or_pos c with hc0 | hc0
    · subst hc0
      obtain rfl : h = 0 := by omega
      obtain rfl : l = 0 := by omega
      intro a w ha _
      have hr := run_sliceBounds (P := P) ha (is := true) hl hh h1 (Nat.le_refl 0) w
      simp only [execOp, ha.eval hx, Sem.run_bind, Instr.sliceAt, run_underlying hu, Result.andThen_ok, Instr.slice, Sem.run_pure, Option.map_none, hr, hs]
      rfl
    · have : s = none := g6 hc0 _ rfl
      subst this
      exact Val.cutSl l h _ _ _ hu hs hx hl hh h1 (by omega) rfl rfl rfl
theorem At.cutB {t el : Nat} {bs : List UInt8} {lo hi : Option Operand} (l h : Nat) (hr : RdB Γ.w0 v bs) (hu : P.underlying t = some (.slice el)) (hs : ∀ w, (sizeOf el).run P w = .ok 1 w) (hx : ev E x = some v) (hl : Bd E lo 0 l) (hh : Bd E hi bs.length h) (h1 : l ≤ h) (h2 : h ≤ bs.length)
    (hg : g = none) (hn : Nat.blt d Γ.n = true) (k : ∀ v', RdB Γ.w0 v' ((bs.drop l).take (h - l)) → At Γ ((d, v') :: E) H (wpList P ops Q rest)) :
    At Γ E H (wpList P ops Q ({ dst := some d, op := .slice t x lo hi .none, type := ty, pos, after, guard := g } :: rest)) := by
  have hr0 := hr
  obtain ⟨A, c, rfl, _⟩ := hr
  exact At.val (Val.cutRd hr0 hu hs hx hl hh h1 h2) hg rfl hn (k _ (RdB.cut hr0 h1 h2))
theorem QAt.cutB {t el : Nat} {bs : List UInt8} {lo hi : Option Operand} (l h : Nat) (hr : RdB Γ.w0 v bs) (hu : P.underlying t = some (.slice el)) (hs : ∀ w, (sizeOf el).run P w = .ok 1 w) (hx : ev E x = some v) (hl : Bd E lo 0 l) (hh : Bd E hi bs.length h) (h1 : l ≤ h) (h2 : h ≤ bs.length)
    (hg : g = none) (hn : Nat.blt d Γ.n = true) (k : ∀ v', RdB Γ.w0 v' ((bs.drop l).take (h - l)) → QAt P Γ ops ((d, v') :: E) H rest ψ) :
    QAt P Γ ops E H ({ dst := some d, op := .slice t x lo hi .none, type := ty, pos, after, guard := g } :: rest) ψ := by
  have hr0 := hr
  obtain ⟨A, c, rfl, _⟩ := hr
  exact QAt.val (Val.cutRd hr0 hu hs hx hl hh h1 h2) hg rfl hn (k _ (RdB.cut hr0 h1 h2))
theorem At.arrB {t el n : Nat} {bs : List UInt8} (hr : RdB Γ.w0 v bs) (hu : P.underlying t = some (.array n el)) (hx : ev E x = some v) (h1 : n ≤ bs.length) (h0 : 0 < n) (hg : g = none) (hn : Nat.blt d Γ.n = true)
    (k : ∀ b o, (∀ j u, ((bs.take n).map bv)[j]? = some u → Γ.w0.cell? ⟨b, o + j, none⟩ = some u) → At Γ ((d, .pointer (some ⟨b, o, none⟩)) :: E) H (wpList P ops Q rest)) :
    At Γ E H (wpList P ops Q ({ dst := some d, op := .sliceToArrayPointer t x, type := ty, pos, after, guard := g } :: rest)) := by
  obtain ⟨b, o, c, rfl, hc⟩ := hr.at (j := 0) (by omega)
  refine At.val (v := .pointer (some ⟨b, o, none⟩)) (fun a w ha _ => ?_) hg rfl hn (k b o fun j u hj => ?_)
  · simp [execOp, ha.eval hx, Instr.arrayAt, Sem.run_bind, run_underlying hu, show ¬ bs.length < n by omega]
  · have := hc j u (by
      rw [List.map_take, List.getElem?_take] at hj
      split at hj
      · simpa using hj
      · cases hj)
    simpa using this
end
end Go.Wk
namespace Go.Wk
open Go
section
variable {P : Program} {Γ : Ctx} {E : Env} {H : List Res} {ops : Array Oper} {Q : Exit → Act → World → Prop} {rest : List Oper}
  {d : Nat} {ty : TypeId} {pos : String} {after : Array Edge} {x y z : Operand} {v u vy : Value} {g : Option (Nat × Bool)}
theorem At.appendRd {i t e sz by_ n m : Nat} {ti : TypeInfo} {z : Value} {xs ys : List Value} (ht : P.underlying t = some (.slice e)) (hti : P.info? e = some ti) (hz : ti.zero = some z) (hsize : ti.size = sz) (hby : ti.bytes = by_) (hzs : z.cells.size = sz) (hsz : Nat.blt 0 sz = true)
    (hx : ev E x = some v) (hy : ev E y = some vy) (hi : H[i]? = some (rowR v e sz n xs)) (hr : Rd Γ.w0 vy sz m ys) (ho : Off vy ys Γ.S) (h1 : ∀ u ∈ ys, u.oneCell' = true) (h63 : (n + m) * by_ ≤ 140737488355328) (h64 : n + m ≤ 140737488355328) (hn : Nat.blt d Γ.n = true)
    (k : ∀ v', At Γ ((d, v') :: E) (H.set i (rowR v' e sz (n + m) (xs ++ ys))) (wpList P ops Q rest)) :
    At Γ E H (wpList P ops Q ({ dst := some d, op := .call { callee := .builtin .append, args := #[x, y], argTypes := #[t, t] }, type := ty, pos, after, guard := none } :: rest)) := by
  have hr0 := hr
  obtain ⟨A, c, rfl, g2, g3, g4, g5, g6⟩ := hr
  refine At.appendSl ht hti hz hsize hby hzs hsz hx hy hi g3 g4 g5 g6 (fun w hw => ?_) h1 h63 h64 hn k
  obtain ⟨A', c', e, q2, _⟩ := hr0.keep hw ho
  simp only [Value.slice.injEq, true_and] at e
  obtain ⟨rfl, rfl⟩ := e
  exact q2
theorem bv_one (l : List UInt8) : ∀ u ∈ l.map bv, u.oneCell' = true := fun u hu => by
  obtain ⟨c, _, rfl⟩ := List.mem_map.1 hu
  rfl
theorem At.appendRdB {i t e by_ : Nat} {ti : TypeInfo} {z : Value} {l m : List UInt8} (ht : P.underlying t = some (.slice e)) (hti : P.info? e = some ti) (hz : ti.zero = some z) (hsize : ti.size = 1) (hby : ti.bytes = by_) (hzs : z.cells.size = 1)
    (hx : ev E x = some v) (hy : ev E y = some vy) (hi : H[i]? = some (rowR v e 1 l.length (l.map bv))) (hr : RdB Γ.w0 vy m) (ho : Off vy (m.map bv) Γ.S) (h63 : (l.length + m.length) * by_ ≤ 140737488355328) (h64 : l.length + m.length ≤ 140737488355328) (hn : Nat.blt d Γ.n = true)
    (k : ∀ v', At Γ ((d, v') :: E) (H.set i (brow e v' (l ++ m))) (wpList P ops Q rest)) :
    At Γ E H (wpList P ops Q ({ dst := some d, op := .call { callee := .builtin .append, args := #[x, y], argTypes := #[t, t] }, type := ty, pos, after, guard := none } :: rest)) :=
  At.appendRd ht hti hz hsize hby hzs rfl hx hy hi hr ho (bv_one m) h63 h64 hn fun v' => by
    have := k v'
    simpa only [brow, List.map_append, List.length_append] using this
theorem At.rowNilB (e : Nat) {φ : Act → World → Prop} (k : At Γ E (brow e (.slice none 0 0) [] :: H) φ) : At Γ E H φ := At.rowNil e 1 k
theorem At.appendB1 {i j t e by_ b U : Nat} {ti : TypeInfo} {z : Value} {l : List UInt8} {c : UInt8} (ht : P.underlying t = some (.slice e)) (hti : P.info? e = some ti) (hz : ti.zero = some z) (hsize : ti.size = 1) (hby : ti.bytes = by_) (hzs : z.cells.size = 1)
    (hx : ev E x = some v) (hy : ev E y = some (.slice (some ⟨b, 0, none⟩) 1 1)) (hi : H[i]? = some (rowR v e 1 l.length (l.map bv))) (hj : H[j]? = some (blk b U [bv c])) (h63 : (l.length + 1) * by_ ≤ 140737488355328) (h64 : l.length + 1 ≤ 140737488355328) (hn : Nat.blt d Γ.n = true)
    (k : ∀ v', At Γ ((d, v') :: E) (H.set i (brow e v' (l ++ [c]))) (wpList P ops Q rest)) :
    At Γ E H (wpList P ops Q ({ dst := some d, op := .call { callee := .builtin .append, args := #[x, y], argTypes := #[t, t] }, type := ty, pos, after, guard := none } :: rest)) :=
  At.append (i := i) (ys := [bv c]) ht hti hz hsize hby hzs rfl hx hy hi rfl (fun w hw j' u hj' => by rw [Nat.zero_add]; exact ((hw.blk hj).cell j').trans hj') (by simp [Value.oneCell']) h63 h64 hn fun v' => by
    have := k v'
    rw [← brow_snoc] at this
    exact this
end
end Go.Wk
namespace Go.Wk
open Go
section
variable {P : Program} {ops : Array Oper} {Q : Exit → Act → World → Prop} {Mid : Act → World → Prop}
theorem Oper.wp_then {o : Oper} {a : Act} {w : World} {K K' : Act → World → Prop} (h : ∀ a w, K a w → K' a w) (hh : o.wp P a w K (Exit.then Mid Q)) : o.wp P a w K' Q := by
  unfold Oper.wp at *
  generalize (execOp a.eval o).run P w = r at *
  cases r with
  | ok n w' =>
    cases n <;> simp only [Oper.upon] at hh ⊢ <;>
      first
        | exact h _ _ hh
        | exact Calls.mono hh (fun e w'' he => by cases e <;> first | exact h _ _ he | exact he)
        | exact Rows.mono hh (fun _ _ he => h _ _ he)
  | halt x w' => cases x <;> simp only [Oper.upon] at hh ⊢ <;> exact hh
theorem wpList_cut {l2 : List Oper} (h2 : ∀ a w, Mid a w → wpList P ops Q l2 a w) : ∀ {l : List Oper} {a : Act} {w : World}, wpList P ops (Exit.then Mid Q) l a w → wpList P ops Q (l ++ l2) a w
  | [], a, w, h => h2 _ _ h
  | o :: l, a, w, h => by
    simp only [List.cons_append]
    unfold wpList at h ⊢
    by_cases hw : Region.wanted o (yielded ops a.tmps) = true
    · rw [if_pos hw] at h ⊢
      rcases h with h | ⟨h, h'⟩
      · exact .inl (Oper.wp_then (fun _ _ k => wpList_cut h2 k) h)
      · exact .inr ⟨h, h'⟩
    · rw [if_neg hw] at h ⊢
      exact wpList_cut h2 h
theorem wpQuiet_cut {C : World → Prop} {ψ ψ' : Act → Prop} {l2 : List Oper} (h2 : ∀ a, ψ' a → wpQuiet P ops C ψ l2 a) : ∀ {l : List Oper} {a : Act}, wpQuiet P ops C ψ' l a → wpQuiet P ops C ψ (l ++ l2) a
  | [], a, h => h2 _ h
  | o :: l, a, h => by
    simp only [List.cons_append]
    unfold wpQuiet at h ⊢
    by_cases hw : Region.wanted o (yielded ops a.tmps) = true
    · rw [if_pos hw] at h ⊢
      exact Go.Oper.quiet_mono (fun _ k => wpQuiet_cut h2 k) h
    · rw [if_neg hw] at h ⊢
      exact wpQuiet_cut h2 h
end
section
variable {P : Program} {Γ : Ctx} {E E' : Env} {H : List Res} {ops : Array Oper} {Q : Exit → Act → World → Prop} {rest l : List Oper}
  {d : Nat} {dst : Option Tmp} {ty : TypeId} {pos : String} {after : Array Edge} {x y z : Operand} {v u : Value} {g : Option (Nat × Bool)} {ψ : Act → Prop}
theorem QAt.weaken (E' : Env) (hE : Sub E E') (k : QAt P Γ ops E' H l ψ) : QAt P Γ ops E H l ψ := fun a ha => k a (ha.weaken hE)
def BoolMid (Γ : Ctx) (E : Env) (H : List Res) (d : Nat) (b : Bool) (a : Act) (w : World) : Prop := Agrees Γ.n Γ.D ((d, .bool b) :: E) a ∧ Rep Γ.w0 Γ.S H w
theorem At.boolMeet (n d : Nat) (b : Bool) (h1 : At Γ E H (wpList P ops (Exit.then (BoolMid Γ E H d b) Q) (l.take n))) (h2 : At Γ ((d, .bool b) :: E) H (wpList P ops Q (l.drop n))) : At Γ E H (wpList P ops Q l) := fun a w ha hw => by
  rw [← List.take_append_drop n l]
  exact wpList_cut (fun a w h => h2 a w h.1 h.2) (h1 a w ha hw)
theorem At.boolEnd {d : Nat} {b c : Bool} (hl : look E' d = some (.bool c)) (hc : c = b) (hE : Sub E' E) : At Γ E' H (Exit.then (BoolMid Γ E H d b) Q .normal) := fun a w ha hw => by
  subst hc
  exact ⟨ha.weaken (Sub.cons hl hE), hw⟩
theorem QAt.boolMeet (n d : Nat) (b : Bool) (h1 : QAt P Γ ops E H (l.take n) (fun a => Agrees Γ.n Γ.D ((d, .bool b) :: E) a)) (h2 : QAt P Γ ops ((d, .bool b) :: E) H (l.drop n) ψ) : QAt P Γ ops E H l ψ := fun a ha => by
  rw [← List.take_append_drop n l]
  exact wpQuiet_cut (fun a h => h2 a h) (h1 a ha)
theorem QAt.boolEnd {d : Nat} {b c : Bool} (hl : look E' d = some (.bool c)) (hc : c = b) (hE : Sub E' E) : QAt P Γ ops E' H [] (fun a => Agrees Γ.n Γ.D ((d, .bool b) :: E) a) := fun a ha => by
  subst hc
  exact wpQuiet_nil (ha.weaken (Sub.cons hl hE))
theorem At.buildRow {t e n : Nat} {parts : Array (Nat × Operand)} {vs : Array (Nat × Value)} {cs : List Value} (hp : ∀ a : Act, Agrees Γ.n Γ.D E a → (parts.map fun p => (p.1, a.eval p.2)) = vs)
    (hb : ∀ w, (Instr.buildSlice t n vs).run P w = .ok (.slice (some ⟨w.heap.size, 0, none⟩) n n) (w.alloc (.cells cs.toArray e))) (sz : Nat) (hl : cs.length = n * sz) (hm : n ≤ 140737488355328) (hn : Nat.blt d Γ.n = true)
    (k : ∀ v, At Γ ((d, v) :: E) (rowR v e sz n cs :: H) (wpList P ops Q rest)) :
    At Γ E H (wpList P ops Q ({ dst := some d, op := .buildSlice t n parts, type := ty, pos, after, guard := none } :: rest)) :=
  At.run rfl rfl hn fun a w ha hw => by
    refine ⟨_, _, _, ?_, hw.new (r' := rowR (.slice (some ⟨w.heap.size, 0, none⟩) n n) e sz n cs) (Mod.alloc w (.cells cs.toArray e)) ?_ (fun b hb => ?_), k _⟩
    · have := hp a ha
      simp only [execOp]
      rw [show (parts.map fun (x : Nat × Operand) => (x.1, a.eval x.2)) = vs from this]
      simp [Sem.run_bind, hb]
    · exact ⟨hl, .inr ⟨w.heap.size, n, cs.toArray, rfl, Nat.zero_le _, heap_alloc_new w _, Nat.le_refl _, by unfold maxLen; omega, by simpa using hl, by rw [← hl]; simp⟩⟩
    · simp only [rowR, Value.ownBlock, Option.some.injEq] at hb
      omega
theorem Val.toB {s t : TypeId} {ds : TypeDesc} {k' : IntKind} {b : Int} (hs : P.underlying s = some ds) (ht : P.underlying t = some (.int .u8)) (hx : ev E x = some (.int k' b)) (h0 : 0 ≤ b) :
    Val P Γ E H ⟨dst, .convert s t x, ty, pos, after, g⟩ (bv (UInt8.ofNat b.toNat)) := by
  have := Val.conv (P := P) (Γ := Γ) (H := H) (dst := dst) (g := g) (ty := ty) (pos := pos) (after := after) hs ht hx
  rwa [show b = ((b.toNat : Nat) : Int) by omega, wrap_u8_nat] at this
def vN (s : ByteArray) : Nat := if validB s then 1 else 0
theorem vN_T {s : ByteArray} : validB s = true ↔ vN s = 1 := by unfold vN; cases validB s <;> simp
theorem vN_F {s : ByteArray} : validB s = false ↔ vN s = 0 := by unfold vN; cases validB s <;> simp
theorem nmE_T {s : ByteArray} : (s.toList == (ByteArray.mk #[]).toList) = true ↔ s.size = 0 := by
  rw [ByteArray.toList_eq, ByteArray.toList_eq, ← size_len]
  show (s.data.toList == ([] : List UInt8)) = true ↔ s.data.toList.length = 0
  rw [beq_iff_eq, List.length_eq_zero_iff]
theorem nmE_F {s : ByteArray} : (s.toList == (ByteArray.mk #[]).toList) = false ↔ s.size ≠ 0 := by
  rw [← Bool.not_eq_true, nmE_T]
end
end Go.Wk
namespace Go.Wk
open Go
section
variable {P : Program} {Γ : Ctx} {E E' : Env} {H : List Res} {ops : Array Oper} {Q : Exit → Act → World → Prop} {rest l : List Oper}
  {d : Nat} {dst : Option Tmp} {ty : TypeId} {pos : String} {after : Array Edge} {x y z : Operand} {v u : Value} {g : Option (Nat × Bool)} {ψ : Act → Prop}
theorem grown_none {w w' : World} (h : w.grownBy w' none) : Mod (fun _ => False) w w' := ⟨h.size, fun b hb _ => h.block b hb (fun e => by cases e), h.os, h.tape, h.output⟩
theorem own_block {w : World} {v : Value} {base e sz n : Nat} {xs : List Value} (h : w.ownsRow base e sz v n xs) : ∀ b, v.ownBlock = some b → base ≤ b := fun b hb => (h.lt b hb).1
theorem own_base {w : World} {v : Value} {base e sz n : Nat} {xs : List Value} (h : w.ownsRow base e sz v n xs) : w.ownsRow 0 e sz v n xs := by
  refine ⟨h.1, ?_⟩
  rcases h.2 with hn | ⟨g, cap, cur, h1, h2, rest⟩
  · exact .inl hn
  · exact .inr ⟨g, cap, cur, h1, Nat.zero_le _, rest⟩
theorem At.makeRow {t e sz n : Nat} {ti : TypeInfo} {zv : Value} {cs : List Value} (ht : P.underlying t = some (.slice e)) (hti : P.info? e = some ti) (hz : ti.zero = some zv) (hsize : ti.size = sz) (hcs : (madeCells zv.cells (n * sz)).toList = cs)
    (hx : ev E x = some (.int .i64 (n : Int))) (hy : ev E y = some (.int .i64 (n : Int))) (hbytes : ti.bytes * n ≤ 281474976710656) (h63 : n ≤ 140737488355328) (hn : Nat.blt d Γ.n = true)
    (k : ∀ v, At Γ ((d, v) :: E) (rowR v e sz n cs :: H) (wpList P ops Q rest)) :
    At Γ E H (wpList P ops Q ({ dst := some d, op := .makeSlice t x y, type := ty, pos, after, guard := none } :: rest)) :=
  At.run rfl rfl hn fun a w ha hw => by
    obtain ⟨w', hr, hown, hg⟩ := run_make_full (P := P) w w.heap.size t e ti zv sz ht hti hz hsize .i64 .i64 n hbytes (by unfold maxLen; omega) (Nat.le_refl _)
    refine ⟨_, w', _, by simp [execOp, ha.eval hx, ha.eval hy, Sem.run_bind, hr], hw.new (r' := rowR _ e sz n cs) (grown_none hg) (by subst hcs; exact own_base hown) (fun b hb => own_block hown b hb), k _⟩
theorem At.makeRow0 {t e sz c : Nat} {ti : TypeInfo} {zv : Value} (ht : P.underlying t = some (.slice e)) (hti : P.info? e = some ti) (hz : ti.zero = some zv) (hsize : ti.size = sz)
    (hx : ev E x = some (.int .i64 0)) (hy : ev E y = some (.int .i64 (c : Int))) (hbytes : ti.bytes * c ≤ 281474976710656) (h63 : c ≤ 140737488355328) (hn : Nat.blt d Γ.n = true)
    (k : ∀ v, At Γ ((d, v) :: E) (rowR v e sz 0 [] :: H) (wpList P ops Q rest)) :
    At Γ E H (wpList P ops Q ({ dst := some d, op := .makeSlice t x y, type := ty, pos, after, guard := none } :: rest)) :=
  At.run rfl rfl hn fun a w ha hw => by
    obtain ⟨w', hr, hown, hg⟩ := run_make_own (P := P) w w.heap.size t e ti zv sz ht hti hz hsize .i64 .i64 c hbytes (by unfold maxLen; omega) (Nat.le_refl _)
    refine ⟨_, w', _, by simp [execOp, ha.eval hx, ha.eval hy, Sem.run_bind, hr], hw.new (r' := rowR _ e sz 0 []) (grown_none hg) (own_base hown) (fun b hb => own_block hown b hb), k _⟩
theorem made_zs (n : Nat) : (madeCells #[Value.int .u8 0] (n * 1)).toList = (zs n).map bv := by
  rw [zs_bv, Nat.mul_one]
  apply List.ext_getElem
  · simp [madeCells]
  · intro i h1 h2
    simp [madeCells, Nat.mod_one]
theorem At.makeRowB {t e n : Nat} {ti : TypeInfo} (ht : P.underlying t = some (.slice e)) (hti : P.info? e = some ti) (hz : ti.zero = some (.int .u8 0)) (hsize : ti.size = 1) (hb : ti.bytes = 1)
    (hx : ev E x = some (.int .i64 (n : Int))) (hy : ev E y = some (.int .i64 (n : Int))) (h63 : n ≤ 140737488355328) (hn : Nat.blt d Γ.n = true)
    (k : ∀ v, At Γ ((d, v) :: E) (brow e v (zs n) :: H) (wpList P ops Q rest)) :
    At Γ E H (wpList P ops Q ({ dst := some d, op := .makeSlice t x y, type := ty, pos, after, guard := none } :: rest)) :=
  At.makeRow ht hti hz hsize (made_zs n) hx hy (by rw [hb]; omega) h63 hn fun v => by
    have := k v
    unfold brow at this
    rwa [zs_length] at this
theorem At.makeRow0B {t e c : Nat} {ti : TypeInfo} (ht : P.underlying t = some (.slice e)) (hti : P.info? e = some ti) (hz : ti.zero = some (.int .u8 0)) (hsize : ti.size = 1) (hb : ti.bytes = 1)
    (hx : ev E x = some (.int .i64 0)) (hy : ev E y = some (.int .i64 (c : Int))) (h63 : c ≤ 140737488355328) (hn : Nat.blt d Γ.n = true)
    (k : ∀ v, At Γ ((d, v) :: E) (brow e v [] :: H) (wpList P ops Q rest)) :
    At Γ E H (wpList P ops Q ({ dst := some d, op := .makeSlice t x y, type := ty, pos, after, guard := none } :: rest)) :=
  At.makeRow0 ht hti hz hsize hx hy (by rw [hb]; omega) h63 hn k
theorem Val.cutRow {i t el e n c l h sz : Nat} {A : Option Addr} {xs : List Value} {lo hi : Option Operand} (hr : H[i]? = some (rowR (.slice A n c) e sz n xs)) (hsz : 0 < sz) (hu : P.underlying t = some (.slice el)) (hs : ∀ w, (sizeOf el).run P w = .ok sz w)
    (hx : ev E x = some (.slice A n c)) (hl : Bd E lo 0 l) (hh : Bd E hi n h) (h1 : l ≤ h) (h2 : h ≤ n) :
    Val P Γ E H ⟨dst, .slice t x lo hi .none, ty, pos, after, g⟩ (.slice (cutA A c l sz) (h - l) (c - l)) := fun a w ha hw =>
  Val.cutRd (Γ := Γ) (H := H) (row_rd (hw.row hr) hsz) hu hs hx hl hh h1 h2 a w ha hw
theorem At.storeRowB {i t e q : Nat} {l : List UInt8} {c : UInt8} (hs : ∀ w, (sizeOf t).run P w = .ok 1 w) (hx : ev E x = some (.pointer (some ⟨rowB v, q, none⟩))) (hy : ev E y = some (bv c)) (hi : H[i]? = some (rowR v e 1 l.length (l.map bv))) (hq : q < l.length)
    (k : At Γ E (H.set i (brow e v (l.set q c))) (wpList P ops Q rest)) : At Γ E H (wpList P ops Q ({ dst := .none, op := .store t x y, type := ty, pos, after, guard := none } :: rest)) :=
  At.storeRow hs hx hy rfl hi (by simpa using hq) (by rw [brow_set]; exact k)
end
end Go.Wk
namespace Go.Wk
open Go
section
variable {P : Program} {Γ : Ctx} {E E' : Env} {H : List Res} {ops : Array Oper} {Q : Exit → Act → World → Prop} {rest : List Oper}
  {d : Nat} {ty : TypeId} {pos : String} {after : Array Edge}
def SomeC (P : Program) (f : FuncId) (vs : List Value) (R : Value → Prop) (w : World) : Prop := Calls P f vs.toArray w fun e w' => ∃ v, R v ∧ e = .returned v ∧ Mod (fun _ => False) w w'
theorem At.callX {R : Value → Prop} {f : FuncId} {l : List Operand} {vs : List Value} {at_ : Array TypeId} (h : ∀ w, Rep Γ.w0 Γ.S H w → SomeC P f vs R w) (hc : ∀ args w, (callFunc f args).run P w = .ok (.enter f args) w) (hv : evs E l = some vs) (hn : Nat.blt d Γ.n = true)
    (k : ∀ v, R v → At Γ ((d, v) :: E) H (wpList P ops Q rest)) :
    At Γ E H (wpList P ops Q ({ dst := some d, op := .call { callee := .value (.func f), args := l.toArray, argTypes := at_ }, type := ty, pos, after, guard := none } :: rest)) :=
  At.call hc hv hn fun w hw => (h w hw).mono fun e w' ⟨v, hR, he, hm⟩ => ⟨v, H, he, hw.garbage hm, k v hR⟩
end
end Go.Wk
namespace Go
section
variable {P : Program} {ops : Array Oper} {Q : Exit → Act → World → Prop} {md : Region.Mode} {S : World → Prop} {t : Nat}
def wpAnyK (P : Program) (md : Region.Mode) (ops : Array Oper) (Q : Exit → Act → World → Prop) (S : World → Prop) (t : Nat) : Nat → Array Bool → Act → World → Prop
  | 0, listed, a, w => Region.ready md ops listed = [] ∧ Q .normal a w
  | fuel + 1, listed, a, w =>
    (Region.ready md ops listed = [] → Q .normal a w) ∧
    ∀ i ∈ Region.ready md ops listed, wpOp P ops Q i (fun a' w' => (i < t → S w') ∧ wpAnyK P md ops Q S t fuel (listed.setIfInBounds i true) a' w') a w
theorem wpAny_of_K : ∀ (fuel : Nat) (listed : Array Bool) (a : Act) (w : World), wpAnyK P md ops Q S t fuel listed a w → wpAny P md ops Q fuel listed a w
  | 0, _, _, _, h => h
  | fuel + 1, _, _, _, h => ⟨h.1, fun i hi => wpOp_mono (fun a' w' h' => wpAny_of_K fuel _ a' w' h'.2) (h.2 i hi)⟩
theorem wpAnyK_first {i : Nat} {oi : Oper} {v : Value} (hi : ops[i]? = some oi) (hsel : ∀ (j : Nat) (o : Oper) cs b, ops[j]? = some o → o.op ≠ .select cs b)
    (hQ : ∀ c a w, Q (.panic c) (a.put oi.dst v) w → Q (.panic c) a w) (htail : ∀ j oj, ops[j]? = some oj → t ≤ j → ∃ e ∈ oj.after, Region.binds md e = true ∧ e.on = i) :
    ∀ (fuel : Nat) (listed : Array Bool) (a : Act) (w : World),
      (∀ j oj, ops[j]? = some oj → j ≠ i → listed.getD j true = false → (∀ e ∈ oj.after, Region.binds md e = true → e.on ≠ i) → oi.apart ops oj = true) →
      i ∈ Region.ready md ops listed → i < t → YieldsIf P ops S oi v a → S w →
      wpAnyK P md ops Q S t fuel (listed.setIfInBounds i true) (a.put oi.dst v) w → wpAnyK P md ops Q S t (fuel + 1) listed a w := by
  intro fuel
  induction fuel with
  | zero =>
    intro listed a w _ hr hit hy hS H
    refine ⟨fun h => (by rw [h] at hr; cases hr), fun j hj => ?_⟩
    by_cases hji : j = i
    · subst hji; exact hy.wpOp hi hS ⟨fun _ => hS, H⟩
    · have := ready_mono hj hji
      rw [H.1] at this
      cases this
  | succ fuel ih =>
    intro listed a w hfree hr hit hy hS H
    refine ⟨fun h => (by rw [h] at hr; cases hr), fun j hj => ?_⟩
    by_cases hji : j = i
    · subst hji; exact hy.wpOp hi hS ⟨fun _ => hS, H⟩
    · have h1 := H.2 j (ready_mono hj hji)
      obtain ⟨hjun, oj, hoj, hall⟩ := mem_ready.1 hj
      have hnot : ∀ e ∈ oj.after, Region.binds md e = true → e.on ≠ i := fun e he hb heq => by
        have h1 := hall e he hb
        have h0 := (mem_ready.1 hr).1
        rw [heq] at h1
        rcases Nat.lt_or_ge i listed.size with h' | h'
        · simp [h'] at h0 h1; rw [h0] at h1; cases h1
        · simp [Array.getElem?_eq_none h'] at h1
      have hjt : j < t := Nat.lt_of_not_le fun hge => by
        obtain ⟨e, he, hb, heq⟩ := htail j oj hoj hge
        exact hnot e he hb heq
      have h2 := wpOp_putIf hoj (hfree j oj hoj hji hjun hnot) (fun cs b => hsel i oi cs b hi) (fun cs b => hsel j oj cs b hoj) hQ hy h1
      have hfree' : ∀ k ok, ops[k]? = some ok → k ≠ i → (listed.setIfInBounds j true).getD k true = false →
          (∀ e ∈ ok.after, Region.binds md e = true → e.on ≠ i) → oi.apart ops ok = true := fun k ok hk hki hun hno => by
        refine hfree k ok hk hki ?_ hno
        by_cases hjk : j = k
        · subst hjk; exact hjun
        · rw [getD_set_ne true hjk] at hun; exact hun
      refine wpOp_mono (fun a' w' h3 => ⟨fun _ => h3.2.1 hjt, ih (listed.setIfInBounds j true) a' w' hfree' (ready_mono hr (Ne.symm hji)) hit h3.1 (h3.2.1 hjt) ?_⟩) h2
      rw [Array.setIfInBounds_comm _ _ hji]
      exact h3.2.2
def tailB (md : Region.Mode) (ops : Array Oper) (t i : Nat) : Bool := (List.range (ops.size - t)).all fun k => match ops[t + k]? with | some o => o.after.any fun e => Region.binds md e && e.on == i | none => true
theorem tailB_spec {i : Nat} (h : tailB md ops t i = true) : ∀ j oj, ops[j]? = some oj → t ≤ j → ∃ e ∈ oj.after, Region.binds md e = true ∧ e.on = i := fun j oj hj htj => by
  have hlt : j < ops.size := by
    rcases Nat.lt_or_ge j ops.size with h' | h'
    · exact h'
    · rw [Array.getElem?_eq_none h'] at hj; cases hj
  have := List.all_eq_true.1 h (j - t) (List.mem_range.2 (by omega))
  rw [show t + (j - t) = j by omega, hj] at this
  simp only [Array.any_eq_true, Bool.and_eq_true, beq_iff_eq] at this
  obtain ⟨k, hk, h1, h2⟩ := this
  exact ⟨_, Array.getElem_mem hk, h1, h2⟩
end
namespace Wk
section
variable {P : Program} {Γ : Ctx} {E E' : Env} {H H' HS : List Res} {ops : Array Oper} {Q : Exit → Act → World → Prop} {t fuel : Nat} {listed : Array Bool} {d i : Nat} {v : Value} {o : Oper}
def NoPanic (Q : Exit → Act → World → Prop) : Exit → Act → World → Prop
  | .panic _, _, _ => False
  | e, a, w => Q e a w
def KAt (P : Program) (Γ : Ctx) (ops : Array Oper) (HS : List Res) (t fuel : Nat) (listed : Array Bool) (E : Env) (H : List Res) (Q : Exit → Act → World → Prop) : Prop :=
  ∀ a w, Agrees Γ.n Γ.D E a → Rep Γ.w0 Γ.S H w → wpAnyK P .any ops (NoPanic Q) (Rep Γ.w0 Γ.S HS) t fuel listed a w
theorem At.any {id : Nat} {l : List Oper} (HS : List Res) (t : Nat) (hm : P.follows .mixedOrders = true) (k : KAt P Γ l.toArray HS t l.length (Array.replicate l.length false) E H Q) : At Γ E H ((Code.region id l.toArray true).wp P Q) := fun a w ha hw => by
  refine wp_mono (Q := NoPanic Q) (wp_region_any hm (wpAny_of_K _ _ _ _ (k a _ ha hw.drew))) fun e a w h => ?_
  cases e <;> first | exact h | exact h.elim
theorem KAt.take (i : Nat) {o : Oper} (h : Val P Γ E HS o v) (hi : ops[i]? = some o) (hg : o.guard = none) (hd : o.dst = some d) (hn : Nat.blt d Γ.n = true) (hHS : ∀ w, Rep Γ.w0 Γ.S H w → Rep Γ.w0 Γ.S HS w)
    (hs : (Region.noSelect ops && Region.free .any ops listed i && (Region.ready .any ops listed).contains i && tailB .any ops t i && Nat.blt i t) = true)
    (k : KAt P Γ ops HS t fuel (listed.setIfInBounds i true) ((d, v) :: E) H Q) : KAt P Γ ops HS t (fuel + 1) listed E H Q := fun a w ha hw => by
  simp only [Bool.and_eq_true, Nat.blt_eq] at hs
  obtain ⟨⟨⟨⟨h1, h2⟩, h3⟩, h4⟩, h5⟩ := hs
  refine wpAnyK_first hi (Region.noSelect_spec h1) (fun c a w h => h) (tailB_spec h4) fuel listed a w (Region.free_spec hi h2) (by simpa using h3) h5 (v := v) (.inl ⟨by simp [Region.wanted, hg], fun w hw => h a w ha hw⟩) (hHS w hw) ?_
  rw [hd]
  exact k _ _ (ha.put d v hn) hw
theorem KAt.takeY (i : Nat) {j s : Nat} {b : Bool} {op : Op} {ty : TypeId} {pos : String} {after : Array Edge} (h : Val P Γ E HS ⟨some d, op, ty, pos, after, none⟩ v) (hi : ops[i]? = some ⟨some d, op, ty, pos, after, some (j, b)⟩) (hj : (ops[j]?).bind (·.dst) = some s) (hl : look E s = some (.bool b)) (hn : Nat.blt d Γ.n = true) (hHS : ∀ w, Rep Γ.w0 Γ.S H w → Rep Γ.w0 Γ.S HS w)
    (hs : (Region.noSelect ops && Region.free .any ops listed i && (Region.ready .any ops listed).contains i && tailB .any ops t i && Nat.blt i t) = true)
    (k : KAt P Γ ops HS t fuel (listed.setIfInBounds i true) ((d, v) :: E) H Q) : KAt P Γ ops HS t (fuel + 1) listed E H Q := fun a w ha hw => by
  simp only [Bool.and_eq_true, Nat.blt_eq] at hs
  obtain ⟨⟨⟨⟨h1, h2⟩, h3⟩, h4⟩, h5⟩ := hs
  have hy : yielded ops a.tmps j = some b := by simp [yielded, hj, ha.get s _ hl]
  exact wpAnyK_first hi (Region.noSelect_spec h1) (fun c a w h => h) (tailB_spec h4) fuel listed a w (Region.free_spec hi h2) (by simpa using h3) h5 (v := v) (.inl ⟨by simp [Region.wanted, hy], fun w hw => h a w ha hw⟩) (hHS w hw) (k _ _ (ha.put d v hn) hw)
theorem KAt.takeN (i : Nat) {j s : Nat} {b c : Bool} {op : Op} {ty : TypeId} {pos : String} {after : Array Edge} (hi : ops[i]? = some ⟨some d, op, ty, pos, after, some (j, b)⟩) (hj : (ops[j]?).bind (·.dst) = some s) (hl : look E s = some (.bool c)) (hc : (c == b) = false) (hn : Nat.blt d Γ.n = true) (hHS : ∀ w, Rep Γ.w0 Γ.S H w → Rep Γ.w0 Γ.S HS w)
    (hs : (Region.noSelect ops && Region.free .any ops listed i && (Region.ready .any ops listed).contains i && tailB .any ops t i && Nat.blt i t) = true)
    (k : KAt P Γ ops HS t fuel (listed.setIfInBounds i true) ((d, undef) :: E) H Q) : KAt P Γ ops HS t (fuel + 1) listed E H Q := fun a w ha hw => by
  simp only [Bool.and_eq_true, Nat.blt_eq] at hs
  obtain ⟨⟨⟨⟨h1, h2⟩, h3⟩, h4⟩, h5⟩ := hs
  have hy : yielded ops a.tmps j = some c := by simp [yielded, hj, ha.get s _ hl]
  exact wpAnyK_first hi (Region.noSelect_spec h1) (fun c a w h => h) (tailB_spec h4) fuel listed a w (Region.free_spec hi h2) (by simpa using h3) h5 (v := undef) (.inr ⟨by simp [Region.wanted, hy]; simpa using hc, rfl⟩) (hHS w hw) (k _ _ (ha.put d undef hn) hw)
theorem KAt.weaken (E' : Env) (hE : Sub E E') (k : KAt P Γ ops HS t fuel listed E' H Q) : KAt P Γ ops HS t fuel listed E H Q := fun a w ha hw => k a w (ha.weaken hE) hw
theorem KAt.drop (j : Nat) (k : KAt P Γ ops HS t fuel listed E (H.eraseIdx j) Q) : KAt P Γ ops HS t fuel listed E H Q := fun a w ha hw => k a w ha (hw.drop (List.eraseIdx_sublist ..))
theorem KAt.split {s : Nat} {b : Bool} (hl : look E s = some (.bool b)) (k1 : b = true → KAt P Γ ops HS t fuel listed ((s, .bool true) :: E) H Q) (k2 : b = false → KAt P Γ ops HS t fuel listed ((s, .bool false) :: E) H Q) : KAt P Γ ops HS t fuel listed E H Q := fun a w ha hw => by
  cases b
  · exact k2 rfl a w (ha.cons hl) hw
  · exact k1 rfl a w (ha.cons hl) hw
def KMid (P : Program) (Γ : Ctx) (ops : Array Oper) (HS : List Res) (t fuel : Nat) (listed : Array Bool) (i : Nat) (Q : Exit → Act → World → Prop) (a : Act) (w : World) : Prop :=
  (i < t → Rep Γ.w0 Γ.S HS w) ∧ wpAnyK P .any ops (NoPanic Q) (Rep Γ.w0 Γ.S HS) t fuel (listed.setIfInBounds i true) a w
theorem KAt.only (i : Nat) {o : Oper} (hi : ops[i]? = some o) (hr : Region.ready .any ops listed = [i])
    (k : At Γ E H (wpList P ops (Exit.then (KMid P Γ ops HS t fuel listed i Q) (NoPanic Q)) [o])) : KAt P Γ ops HS t (fuel + 1) listed E H Q := fun a w ha hw => by
  refine ⟨(fun h0 => by rw [hr] at h0; cases h0), fun j hj => ?_⟩
  rw [hr] at hj
  obtain rfl := List.mem_singleton.1 hj
  have := k a w ha hw
  unfold wpOp
  simp only [hi]
  unfold wpList at this
  split at this
  · rename_i hw'
    rw [if_pos hw']
    rcases this with h | ⟨h1, h2⟩
    · exact .inl (Oper.wp_then (Mid := KMid P Γ ops HS t fuel listed j Q) (Q := NoPanic Q) (fun a' w' h' => h') h)
    · exact .inr ⟨h1, h2⟩
  · rename_i hw'
    rw [if_neg hw']
    exact this
theorem KAt.two (i j : Nat) {oi oj : Oper} (hi : ops[i]? = some oi) (hj : ops[j]? = some oj) (hr : Region.ready .any ops listed = [i, j])
    (ki : At Γ E H (wpList P ops (Exit.then (KMid P Γ ops HS t fuel listed i Q) (NoPanic Q)) [oi])) (kj : At Γ E H (wpList P ops (Exit.then (KMid P Γ ops HS t fuel listed j Q) (NoPanic Q)) [oj])) : KAt P Γ ops HS t (fuel + 1) listed E H Q := fun a w ha hw => by
  have key : ∀ (k : Nat) (ok : Oper), ops[k]? = some ok → wpList P ops (Exit.then (KMid P Γ ops HS t fuel listed k Q) (NoPanic Q)) [ok] a w → wpOp P ops (NoPanic Q) k (fun a' w' => (k < t → Rep Γ.w0 Γ.S HS w') ∧ wpAnyK P .any ops (NoPanic Q) (Rep Γ.w0 Γ.S HS) t fuel (listed.setIfInBounds k true) a' w') a w := fun k ok hk this => by
    unfold wpOp
    simp only [hk]
    unfold wpList at this
    split at this
    · rename_i hw'
      rw [if_pos hw']
      rcases this with h | ⟨h1, h2⟩
      · exact .inl (Oper.wp_then (Mid := KMid P Γ ops HS t fuel listed k Q) (Q := NoPanic Q) (fun a' w' h' => h') h)
      · exact .inr ⟨h1, h2⟩
    · rename_i hw'
      rw [if_neg hw']
      exact this
  refine ⟨(fun h0 => by rw [hr] at h0; cases h0), fun k hk => ?_⟩
  rw [hr] at hk
  rcases List.mem_cons.1 hk with rfl | hk
  · exact key _ _ hi (ki a w ha hw)
  · obtain rfl := List.mem_singleton.1 hk
    exact key _ _ hj (kj a w ha hw)
theorem KAt.go (hHS : ∀ w, Rep Γ.w0 Γ.S H w → Rep Γ.w0 Γ.S HS w) (k : KAt P Γ ops HS t fuel (listed.setIfInBounds i true) E H Q) : At Γ E H (Exit.then (KMid P Γ ops HS t fuel listed i Q) (NoPanic Q) .normal) := fun a w ha hw => ⟨fun _ => hHS w hw, k a w ha hw⟩
theorem KAt.goT (hit : Nat.ble t i = true) (k : KAt P Γ ops HS t fuel (listed.setIfInBounds i true) E H Q) : At Γ E H (Exit.then (KMid P Γ ops HS t fuel listed i Q) (NoPanic Q) .normal) := fun a w ha hw => ⟨fun h => by have := Nat.le_of_ble_eq_true hit; omega, k a w ha hw⟩
theorem KAt.done (hr : Region.ready .any ops listed = []) (k : At Γ E H (Q .normal)) : KAt P Γ ops HS t fuel listed E H Q := fun a w ha hw => by
  cases fuel with
  | zero => exact ⟨hr, k a w ha hw⟩
  | succ n => exact ⟨fun _ => k a w ha hw, (fun i hi => by rw [hr] at hi; cases hi)⟩
end
end Wk
end Go
namespace Go.Wk
open Go
section
variable {P : Program} {Γ : Ctx} {E E' : Env} {H HS : List Res} {ops : Array Oper} {Q : Exit → Act → World → Prop} {rest : List Oper}
  {d : Nat} {dst : Option Tmp} {ty : TypeId} {pos : String} {after : Array Edge} {x y z : Operand} {v u vy : Value} {g : Option (Nat × Bool)} {ψ : Act → Prop} {t' fuel : Nat} {listed : Array Bool}
theorem KAt.pin (hHS : ∀ w, Rep Γ.w0 Γ.S H w → Rep Γ.w0 Γ.S HS w) (k : KAt P Γ ops HS t' fuel listed E H Q) : KAt P Γ ops HS t' fuel listed E H Q := k
theorem Val.makeFunc {fn : FuncId} (hx : ev E x = some v) : Val P Γ E H ⟨dst, .makeFunc (.func fn) #[] #[x], ty, pos, after, g⟩ (.func (.func fn) #[] #[v]) := fun a w ha _ => by
  simp [execOp, Instr.makeFunc, ha.eval hx]
theorem At.callV {f : FuncId} {fx : Operand} {cap : Value} {l : List Operand} {vs : List Value} {at_ : Array TypeId} (hf : ev E fx = some (.func (.func f) #[] #[cap])) (hc : ∀ args w, (callFunc f args).run P w = .ok (.enter f args) w) (hv : evs E l = some vs) (hn : Nat.blt d Γ.n = true)
    (h : ∀ w, Rep Γ.w0 Γ.S H w → PureC P f (vs ++ [cap]) v w) (k : At Γ ((d, v) :: E) H (wpList P ops Q rest)) :
    At Γ E H (wpList P ops Q ({ dst := some d, op := .call { callee := .value fx, args := l.toArray, argTypes := at_ }, type := ty, pos, after, guard := none } :: rest)) := fun a w ha hw => by
  refine wpList_plain rfl fun K hK => ?_
  unfold Oper.wp
  have hev := ha.evals hv
  have hr : (execOp a.eval { dst := some d, op := .call { callee := .value fx, args := l.toArray, argTypes := at_ }, type := ty, pos, after, guard := none }).run P w = .ok (.enter f (vs ++ [cap]).toArray) w := by
    have e : l.toArray.map a.eval = vs.toArray := by rw [List.map_toArray, hev]
    simp [execOp, resolve, ha.eval hf, Deferred.ofValue, Sem.run_bind, invoke, hev, hc]
  rw [hr]
  simp only [Oper.upon]
  refine (h w hw).mono fun e w' ⟨he, hm⟩ => ?_
  subst he
  exact hK _ _ (k _ _ (ha.put d v hn) (hw.garbage hm))
theorem At.idxF {α : Type} {f : α → Value} {t el : Nat} {l : List α} {k : IntKind} {j : Int} (h : Rd Γ.w0 v 1 l.length (l.map f)) (hu : P.underlying t = some (.slice el)) (hs : ∀ w, (sizeOf el).run P w = .ok 1 w) (hx : ev E x = some v) (hy : ev E y = some (.int k j)) (h0 : 0 ≤ j) (h1 : j < l.length)
    (hg : g = none) (hn : Nat.blt d Γ.n = true)
    (c : ∀ b o q, l[j.toNat]? = some q → Γ.w0.cell? ⟨b, o, none⟩ = some (f q) → At Γ ((d, .pointer (some ⟨b, o, none⟩)) :: E) H (wpList P ops Q rest)) :
    At Γ E H (wpList P ops Q ({ dst := some d, op := .indexAddr t x y, type := ty, pos, after, guard := g } :: rest)) :=
  At.idxRd h hu hs hx hy h0 h1 hg hn fun b o hc => by
    have hq : l[j.toNat]? = some (l[j.toNat]'(by omega)) := List.getElem?_eq_getElem _
    exact c b o _ hq (hc 0 _ (by rw [Nat.mul_one, Nat.add_zero, List.getElem?_map, hq]; rfl))
def prC (l : List (Int × BitVec 64)) : List Value := l.flatMap fun c => [.int .i64 c.1, b64 c.2]
theorem prC_append (a b : List (Int × BitVec 64)) : prC (a ++ b) = prC a ++ prC b := by simp [prC]
theorem prC_length (a : List (Int × BitVec 64)) : (prC a).length = a.length * 2 := by induction a with
  | nil => rfl
  | cons c a ih => simp only [prC, List.flatMap_cons, List.length_append, List.length_cons] at *; rw [ih]; simp; omega
theorem prC_at : ∀ {L : List (Int × BitVec 64)} {j : Nat} {c : Int × BitVec 64}, L[j]? = some c → (prC L)[j * 2]? = some (.int .i64 c.1) ∧ (prC L)[j * 2 + 1]? = some (b64 c.2)
  | d :: L, 0, c, h => by
    have : d = c := by simpa using h
    subst this; exact ⟨rfl, rfl⟩
  | d :: L, j + 1, c, h => by
    have h' : L[j]? = some c := by simpa using h
    have := prC_at h'
    rw [show (j + 1) * 2 = j * 2 + 1 + 1 by omega]
    exact this
theorem prC_one (l : List (Int × BitVec 64)) : ∀ u ∈ prC l, u.oneCell' = true := fun u hu => by
  unfold prC at hu
  obtain ⟨c, _, hc⟩ := List.mem_flatMap.1 hu
  rcases List.mem_cons.1 hc with rfl | hc
  · rfl
  · obtain rfl := List.mem_singleton.1 hc
    rfl
theorem prC_take : ∀ (l : List (Int × BitVec 64)) (k : Nat), prC (l.take k) = (prC l).take (k * 2)
  | [], k => by simp [prC]
  | c :: l, 0 => by simp [prC]
  | c :: l, k + 1 => by
    rw [List.take_succ_cons, show (k + 1) * 2 = k * 2 + 1 + 1 by omega]
    simp only [prC, List.flatMap_cons, List.cons_append, List.nil_append, List.take_succ_cons]
    have := prC_take l k
    unfold prC at this
    rw [this]
abbrev RdP (w : World) (v : Value) (l : List (Int × BitVec 64)) : Prop := Rd w v 2 l.length (prC l)
abbrev prow (e : Nat) (v : Value) (l : List (Int × BitVec 64)) : Res := rowR v e 2 l.length (prC l)
theorem At.idxP {t el : Nat} {l : List (Int × BitVec 64)} {k : IntKind} {j : Int} (h : RdP Γ.w0 v l) (hu : P.underlying t = some (.slice el)) (hs : ∀ w, (sizeOf el).run P w = .ok 2 w) (hx : ev E x = some v) (hy : ev E y = some (.int k j)) (h0 : 0 ≤ j) (h1 : j < l.length)
    (hg : g = none) (hn : Nat.blt d Γ.n = true)
    (c : ∀ b o q, l[j.toNat]? = some q → Γ.w0.cell? ⟨b, o, none⟩ = some (.int .i64 q.1) → Γ.w0.cell? ⟨b, o + 1, none⟩ = some (b64 q.2) → At Γ ((d, .pointer (some ⟨b, o, none⟩)) :: E) H (wpList P ops Q rest)) :
    At Γ E H (wpList P ops Q ({ dst := some d, op := .indexAddr t x y, type := ty, pos, after, guard := g } :: rest)) :=
  At.idxRd h hu hs hx hy h0 h1 hg hn fun b o hc => by
    have hq : l[j.toNat]? = some (l[j.toNat]'(by omega)) := List.getElem?_eq_getElem _
    have hp := prC_at hq
    exact c b o _ hq (hc 0 _ hp.1) (hc 1 _ hp.2)
theorem QAt.idxP {t el : Nat} {l : List (Int × BitVec 64)} {k : IntKind} {j : Int} (h : RdP Γ.w0 v l) (hu : P.underlying t = some (.slice el)) (hs : ∀ w, (sizeOf el).run P w = .ok 2 w) (hx : ev E x = some v) (hy : ev E y = some (.int k j)) (h0 : 0 ≤ j) (h1 : j < l.length)
    (hg : g = none) (hn : Nat.blt d Γ.n = true)
    (c : ∀ b o q, l[j.toNat]? = some q → Γ.w0.cell? ⟨b, o, none⟩ = some (.int .i64 q.1) → Γ.w0.cell? ⟨b, o + 1, none⟩ = some (b64 q.2) → QAt P Γ ops ((d, .pointer (some ⟨b, o, none⟩)) :: E) H rest ψ) :
    QAt P Γ ops E H ({ dst := some d, op := .indexAddr t x y, type := ty, pos, after, guard := g } :: rest) ψ :=
  QAt.idxRd h hu hs hx hy h0 h1 hg hn fun b o hc => by
    have hq : l[j.toNat]? = some (l[j.toNat]'(by omega)) := List.getElem?_eq_getElem _
    have hp := prC_at hq
    exact c b o _ hq (hc 0 _ hp.1) (hc 1 _ hp.2)
theorem Val.loadPair {t b o : Nat} {q : Int × BitVec 64} (hA : ∀ w, (isAgg t).run P w = .ok true w) (hs : ∀ w, (sizeOf t).run P w = .ok 2 w) (hx : ev E x = some (.pointer (some ⟨b, o, none⟩))) (h0 : Γ.w0.cell? ⟨b, o, none⟩ = some (.int .i64 q.1)) (h1 : Γ.w0.cell? ⟨b, o + 1, none⟩ = some (b64 q.2)) (hS : ¬ Γ.S b) :
    Val P Γ E H ⟨dst, .load t x, ty, pos, after, g⟩ (.agg #[.int .i64 q.1, b64 q.2]) :=
  Val.loadOldPart (vs := [.int .i64 q.1, b64 q.2]) hA hs hx rfl (fun j u hj => by
    match j, hj with
    | 0, hj => (obtain rfl := Option.some.inj hj; exact h0)
    | 1, hj => (obtain rfl := Option.some.inj hj; exact h1)) hS
theorem At.rowNilP (e : Nat) {φ : Act → World → Prop} (k : At Γ E (prow e (.slice none 0 0) [] :: H) φ) : At Γ E H φ := At.rowNil e 2 k
theorem prow_snoc (e : Nat) (v : Value) (l : List (Int × BitVec 64)) (a : Int) (x : BitVec 64) : rowR v e 2 (l.length + 1) (prC l ++ [.int .i64 a, b64 x]) = prow e v (l ++ [(a, x)]) := by
  unfold prow; rw [prC_append, List.length_append]; rfl
theorem At.appendP1 {i j t e by_ b U : Nat} {ti : TypeInfo} {z : Value} {l : List (Int × BitVec 64)} {a : Int} {w' : BitVec 64} (ht : P.underlying t = some (.slice e)) (hti : P.info? e = some ti) (hz : ti.zero = some z) (hsize : ti.size = 2) (hby : ti.bytes = by_) (hzs : z.cells.size = 2)
    (hx : ev E x = some v) (hy : ev E y = some (.slice (some ⟨b, 0, none⟩) 1 1)) (hi : H[i]? = some (rowR v e 2 l.length (prC l))) (hj : H[j]? = some (blk b U [.int .i64 a, b64 w'])) (h63 : (l.length + 1) * by_ ≤ 140737488355328) (h64 : l.length + 1 ≤ 140737488355328) (hn : Nat.blt d Γ.n = true)
    (k : ∀ v', At Γ ((d, v') :: E) (H.set i (prow e v' (l ++ [(a, w')]))) (wpList P ops Q rest)) :
    At Γ E H (wpList P ops Q ({ dst := some d, op := .call { callee := .builtin .append, args := #[x, y], argTypes := #[t, t] }, type := ty, pos, after, guard := none } :: rest)) :=
  At.append (i := i) (ys := [.int .i64 a, b64 w']) ht hti hz hsize hby hzs rfl hx hy hi rfl (fun w hw j' u hj' => by rw [Nat.zero_add]; exact ((hw.blk hj).cell j').trans hj') (by simp [Value.oneCell']) h63 h64 hn fun v' => by
    have := k v'
    rw [← prow_snoc] at this
    exact this
theorem At.appendRdP {i t e by_ : Nat} {ti : TypeInfo} {z : Value} {l m : List (Int × BitVec 64)} (ht : P.underlying t = some (.slice e)) (hti : P.info? e = some ti) (hz : ti.zero = some z) (hsize : ti.size = 2) (hby : ti.bytes = by_) (hzs : z.cells.size = 2)
    (hx : ev E x = some v) (hy : ev E y = some vy) (hi : H[i]? = some (rowR v e 2 l.length (prC l))) (hr : RdP Γ.w0 vy m) (ho : Off vy (prC m) Γ.S) (h63 : (l.length + m.length) * by_ ≤ 140737488355328) (h64 : l.length + m.length ≤ 140737488355328) (hn : Nat.blt d Γ.n = true)
    (k : ∀ v', At Γ ((d, v') :: E) (H.set i (prow e v' (l ++ m))) (wpList P ops Q rest)) :
    At Γ E H (wpList P ops Q ({ dst := some d, op := .call { callee := .builtin .append, args := #[x, y], argTypes := #[t, t] }, type := ty, pos, after, guard := none } :: rest)) :=
  At.appendRd ht hti hz hsize hby hzs rfl hx hy hi hr ho (prC_one m) h63 h64 hn fun v' => by
    have := k v'
    simpa only [prow, prC_append, List.length_append] using this
theorem At.cutP {t el : Nat} {L : List (Int × BitVec 64)} {hi : Option Operand} (h : Nat) (hr : RdP Γ.w0 v L) (hu : P.underlying t = some (.slice el)) (hs : ∀ w, (sizeOf el).run P w = .ok 2 w) (hx : ev E x = some v) (hh : Bd E hi L.length h) (h2 : h ≤ L.length)
    (hg : g = none) (hn : Nat.blt d Γ.n = true) (k : ∀ v', RdP Γ.w0 v' (L.take h) → At Γ ((d, v') :: E) H (wpList P ops Q rest)) :
    At Γ E H (wpList P ops Q ({ dst := some d, op := .slice t x .none hi .none, type := ty, pos, after, guard := g } :: rest)) := by
  have hr0 := hr
  obtain ⟨A, c, rfl, _⟩ := hr
  refine At.val (Val.cutRd (lo := .none) (l := 0) hr0 hu hs hx rfl hh (Nat.zero_le _) h2) hg rfl hn (k _ ?_)
  have := Rd.cut hr0 (Nat.zero_le h) h2
  simp only [Nat.zero_mul, List.drop_zero, Nat.sub_zero] at this ⊢
  unfold RdP
  rw [prC_take, List.length_take, Nat.min_eq_left h2]
  exact this
abbrev wrow (e : Nat) (v : Value) (l : List (BitVec 64)) : Res := rowR v e 1 l.length (l.map b64)
abbrev RdW (w : World) (v : Value) (l : List (BitVec 64)) : Prop := Rd w v 1 l.length (l.map b64)
theorem At.rowNilW (e : Nat) {φ : Act → World → Prop} (k : At Γ E (wrow e (.slice none 0 0) [] :: H) φ) : At Γ E H φ := At.rowNil e 1 k
theorem At.appendWs {i j t e by_ b U m : Nat} {ti : TypeInfo} {z : Value} {l ms : List (BitVec 64)} (ht : P.underlying t = some (.slice e)) (hti : P.info? e = some ti) (hz : ti.zero = some z) (hsize : ti.size = 1) (hby : ti.bytes = by_) (hzs : z.cells.size = 1)
    (hx : ev E x = some v) (hy : ev E y = some (.slice (some ⟨b, 0, none⟩) m m)) (hi : H[i]? = some (rowR v e 1 l.length (l.map b64))) (hm : ms.length = m) (hj : H[j]? = some (blk b U (ms.map b64))) (h63 : (l.length + m) * by_ ≤ 140737488355328) (h64 : l.length + m ≤ 140737488355328) (hn : Nat.blt d Γ.n = true)
    (k : ∀ v', At Γ ((d, v') :: E) (H.set i (wrow e v' (l ++ ms))) (wpList P ops Q rest)) :
    At Γ E H (wpList P ops Q ({ dst := some d, op := .call { callee := .builtin .append, args := #[x, y], argTypes := #[t, t] }, type := ty, pos, after, guard := none } :: rest)) :=
  At.append (i := i) (ys := ms.map b64) ht hti hz hsize hby hzs rfl hx hy hi (by rw [List.length_map, hm, Nat.mul_one]) (fun w hw j' u hj' => by rw [Nat.zero_add]; exact ((hw.blk hj).cell j').trans hj') (fun u hu => by obtain ⟨c, _, rfl⟩ := List.mem_map.1 hu; rfl) h63 h64 hn fun v' => by
    have := k v'
    unfold wrow at this
    rw [List.map_append, List.length_append, hm] at this
    exact this
theorem Holds.words {w : World} {b T n : Nat} {l : List (BitVec 64)} (h : Holds w b T (l.map b64)) (hn : l.length = n) : Rd w (.slice (some ⟨b, 0, none⟩) n n) 1 l.length (l.map b64) := by
  subst hn
  refine ⟨_, _, rfl, fun j u hj => ⟨b, 0, rfl, by rw [Nat.zero_add]; exact (h.cell j).trans hj⟩, by simp, Nat.le_refl _, (fun e => by cases e), (fun _ a e => by cases e; rfl)⟩
theorem storeCells_row {w0 : World} {S : Nat → Prop} {i e sz n : Nat} : ∀ (vs : List Value) (o j : Nat) (xs : List Value) (H : List Res) (w : World), Rep w0 S H w → H[i]? = some (rowR v e sz n xs) → o + j + vs.length ≤ xs.length → (∀ u ∈ vs, u.oneCell' = true) →
    ∃ w', (storeCells ⟨rowB v, o, none⟩ vs j).run P w = .ok () w' ∧ Rep w0 S (H.set i (rowR v e sz n (putAt xs (o + j) vs))) w' := by
  intro vs
  induction vs with
  | nil =>
    intro o j xs H w hw hi ho _
    refine ⟨w, by simp [storeCells], ?_⟩
    have e1 : putAt xs (o + j) [] = xs := by simp [putAt]
    have e2 : H.set i (rowR v e sz n xs) = H := by
      apply List.ext_getElem?
      intro q
      rw [List.getElem?_set]
      split
      · rename_i e; subst e
        split
        · rw [hi]
        · rename_i hn; rw [List.getElem?_eq_none (by omega)]
      · rfl
    rw [e1, e2]; exact hw
  | cons u vs ih =>
    intro o j xs H w hw hi ho h1
    simp only [List.length_cons] at ho
    have hlt : o + j < xs.length := by omega
    have hown : w.ownsRow 0 e sz v n xs := hw.row hi
    have hc := row_cell hown (List.getElem?_eq_getElem hlt)
    have hf := row_frozen hown (List.getElem?_eq_getElem hlt)
    have hset : Rep w0 S (H.set i (rowR v e sz n (xs.set (o + j) u))) (w.setCell ⟨rowB v, o + j, none⟩ u) := by
      refine hw.change (r' := rowR v e sz n (xs.set (o + j) u)) hi ((Mod.setCell w _ _).mono fun b hb => ?_) (row_set hown hlt u) (fun b hb => .inl hb)
      rcases hown.2 with ⟨rfl, rfl⟩ | ⟨c, cap, cur, rfl, _⟩
      · have := hown.1; simp at this; rw [this] at hlt; simp at hlt
      · simp only [rowR, rowB, Value.ownBlock, Option.getD_some] at hb ⊢
        rw [hb]
    have hi' : (H.set i (rowR v e sz n (xs.set (o + j) u)))[i]? = some (rowR v e sz n (xs.set (o + j) u)) := by
      rw [List.getElem?_set]; simp; exact (List.getElem?_eq_some_iff.1 hi).1
    obtain ⟨w', hr, hw'⟩ := ih o (j + 1) _ _ _ hset hi' (by simp; omega) (fun u' hu => h1 u' (List.mem_cons_of_mem _ hu))
    refine ⟨w', ?_, ?_⟩
    · have h1v := h1 u (List.mem_cons_self ..)
      have hadd : (⟨rowB v, o, none⟩ : Addr).add j = ⟨rowB v, o + j, none⟩ := by unfold Addr.add; split <;> simp_all
      simp only [storeCells, Sem.run_bind, hadd]
      have : (store ⟨rowB v, o + j, none⟩ u).run P w = .ok () (w.setCell ⟨rowB v, o + j, none⟩ u) := by
        cases u <;> simp_all [store, Sem.run, Value.oneCell']
      rw [this, Result.andThen_ok, hr]
    · rw [List.set_set] at hw'
      have e1 : putAt (xs.set (o + j) u) (o + (j + 1)) vs = putAt xs (o + j) (u :: vs) := by
        unfold putAt
        rw [List.length_cons, List.drop_set_of_lt (by omega), show o + (j + 1) + vs.length = o + j + (vs.length + 1) by omega, show o + (j + 1) = (o + j) + 1 by omega, List.take_add_one, List.take_set_of_le (Nat.le_refl _), List.getElem?_set]
        simp [hlt]
      rw [e1] at hw'
      exact hw'
theorem At.rowSome {i e sz n : Nat} {xs : List Value} {φ : Act → World → Prop} (hi : H[i]? = some (rowR v e sz n xs)) (hn : 0 < n) (k : ∀ b c, v = .slice (some ⟨b, 0, none⟩) n c → At Γ E H φ) : At Γ E H φ := fun a w ha hw => by
  rcases (hw.row hi).2 with ⟨_, h⟩ | ⟨b, cap, cur, h, _⟩
  · omega
  · exact k b cap h a w ha hw
theorem At.copyToRow {i j dT sT e e' sz N C m c o b n : Nat} {xs ys : List Value} (ht : P.underlying dT = some (.slice e)) (hz : ∀ w, (sizeOf e).run P w = .ok 1 w)
    (hx : ev E x = some (.slice (some ⟨b, o, none⟩) m c)) (hy : ev E y = some u) (hi : H[i]? = some (rowR (.slice (some ⟨b, 0, none⟩) N C) e' sz N xs)) (hj : H[j]? = some (rowR u e' 1 n ys)) (hn0 : 0 < n) (hm : n ≤ m) (ho : o + n ≤ xs.length) (h1 : ∀ u ∈ ys, u.oneCell' = true) (hn : Nat.blt d Γ.n = true)
    (k : At Γ ((d, .int .i64 n) :: E) (H.set i (rowR (.slice (some ⟨b, 0, none⟩) N C) e' sz N (putAt xs o ys))) (wpList P ops Q rest)) :
    At Γ E H (wpList P ops Q ({ dst := some d, op := .call { callee := .builtin .copy, args := #[x, y], argTypes := #[dT, sT] }, type := ty, pos, after, guard := none } :: rest)) :=
  At.run rfl rfl hn fun a w ha hw => by
    have hsrc := hw.row hj
    have hl : ys.length = n := by have := hsrc.1; omega
    obtain ⟨w', hr, hw'⟩ := storeCells_row (P := P) ys o 0 xs H w hw hi (by omega) h1
    rcases hsrc.2 with ⟨_, h⟩ | ⟨b', cap', cur', rfl, _⟩
    · omega
    have hld := run_loadCells_list (P := P) w ⟨b', 0, none⟩ ys (fun j u hu => by
      have := row_cell hsrc (q := j) hu
      rw [Addr.add_off, Nat.zero_add]; exact this)
    refine ⟨.int .i64 n, w', _, ?_, hw', k⟩
    have h0 : (Builtin.copy_ #[dT, sT] ty #[.slice (some ⟨b, o, none⟩) m c, .slice (some ⟨b', 0, none⟩) n cap']).run P w = .ok (goInt n) w' := by
      subst hl
      have hr' : (storeCells ⟨b, o, none⟩ ys 0).run P w = .ok () w' := hr
      have hmin : Nat.min ys.length m = ys.length := Nat.min_eq_left hm
      have hmin' : min ys.length m = ys.length := Nat.min_eq_left hm
      have hmin2 : min m ys.length = ys.length := Nat.min_eq_right hm
      simp [Builtin.copy_, run_underlying ht, Builtin.lenOf, Builtin.firstCells, hz, hmin, hmin', hmin2, hld, hr', hm]
    simp [execOp, resolve, invoke, builtin, ha.eval hx, ha.eval hy, Sem.run_bind, h0, goInt]
theorem putAt_map {l m : List UInt8} (o : Nat) : putAt (l.map bv) o (m.map bv) = (l.take o ++ m ++ l.drop (o + m.length)).map bv := by
  unfold putAt; simp [List.map_take, List.map_drop]
theorem At.copyRowB {i j dT sT e e' N C m c o b : Nat} {l s : List UInt8} (ht : P.underlying dT = some (.slice e)) (hz : ∀ w, (sizeOf e).run P w = .ok 1 w)
    (hx : ev E x = some (.slice (some ⟨b, o, none⟩) m c)) (hy : ev E y = some u) (hi : H[i]? = some (rowR (.slice (some ⟨b, 0, none⟩) N C) e' 1 N (l.map bv))) (hj : H[j]? = some (rowR u e' 1 s.length (s.map bv))) (hn0 : 0 < s.length) (hm : s.length ≤ m) (ho : o + s.length ≤ l.length) (hn : Nat.blt d Γ.n = true)
    (k : At Γ ((d, .int .i64 s.length) :: E) (H.set i (rowR (.slice (some ⟨b, 0, none⟩) N C) e' 1 N ((l.take o ++ s ++ l.drop (o + s.length)).map bv))) (wpList P ops Q rest)) :
    At Γ E H (wpList P ops Q ({ dst := some d, op := .call { callee := .builtin .copy, args := #[x, y], argTypes := #[dT, sT] }, type := ty, pos, after, guard := none } :: rest)) :=
  At.copyToRow (u := u) ht hz hx hy hi hj hn0 hm (by rw [List.length_map]; exact ho) (bv_one s) hn (by rw [putAt_map]; exact k)
theorem At.appendBlkB {i j t e by_ b U n c : Nat} {ti : TypeInfo} {z : Value} {l m : List UInt8} (ht : P.underlying t = some (.slice e)) (hti : P.info? e = some ti) (hz : ti.zero = some z) (hsize : ti.size = 1) (hby : ti.bytes = by_) (hzs : z.cells.size = 1)
    (hx : ev E x = some v) (hy : ev E y = some (.slice (some ⟨b, 0, none⟩) n c)) (hi : H[i]? = some (rowR v e 1 l.length (l.map bv))) (hj : H[j]? = some (blk b U (m.map bv))) (hm : m.length = n) (h63 : (l.length + n) * by_ ≤ 140737488355328) (h64 : l.length + n ≤ 140737488355328) (hn : Nat.blt d Γ.n = true)
    (k : ∀ v', At Γ ((d, v') :: E) (H.set i (brow e v' (l ++ m))) (wpList P ops Q rest)) :
    At Γ E H (wpList P ops Q ({ dst := some d, op := .call { callee := .builtin .append, args := #[x, y], argTypes := #[t, t] }, type := ty, pos, after, guard := none } :: rest)) :=
  At.append (i := i) (ys := m.map bv) ht hti hz hsize hby hzs rfl hx hy hi (by rw [List.length_map, hm, Nat.mul_one]) (fun w hw j' u hj' => by rw [Nat.zero_add]; exact ((hw.blk hj).cell j').trans hj') (bv_one m) h63 h64 hn fun v' => by
    have := k v'
    unfold brow at this
    rw [List.map_append, List.length_append, hm] at this
    exact this
theorem Mod.cell {w w' : World} (h : Mod (fun _ => False) w w') {p : Addr} {v : Value} (hc : w.cell? p = some v) : w'.cell? p = some v := by
  have hr : Rep w (fun _ => False) [] w' := ⟨by simp, by simp, by simp, h⟩
  exact hr.oldCell hc (fun h => h)
theorem At.rowOne {i e sz n : Nat} {xs : List Value} {φ : Act → World → Prop} (hi : H[i]? = some (rowR v e sz n xs)) (k : v.oneCell' = true → At Γ E H φ) : At Γ E H φ := fun a w ha hw => by
  rcases (hw.row hi).2 with ⟨h, _⟩ | ⟨b, cap, cur, h, _⟩ <;> exact k (by rw [h]; rfl) a w ha hw
theorem Rep.f0 {w0 w : World} {H : List Res} (h : Rep w0 (fun _ => False) H w) : Rep w0 (feet []) H w := by
  have e : feet [] = fun _ => False := funext fun b => by simp [feet]
  rw [e]; exact h
theorem Rep.nilRow {w0 w : World} {S : Nat → Prop} {H : List Res} (h : Rep w0 S H w) (e sz : Nat) : Rep w0 S (rowR (.slice none 0 0) e sz 0 [] :: H) w :=
  h.new (Mod.refl _ _) (World.ownsRow_nil w 0 e sz) (fun b hb => by simp [rowR, Value.ownBlock] at hb)
theorem Rep.newBlk {w0 w : World} {H : List Res} {i b T L : Nat} {cs : List Value} (h : Rep w0 (fun _ => False) H w) (hi : H[i]? = some (Wk.blk b T cs)) (hL : L < w0.heap.size) : L ≠ b := fun e => by
  rcases h.mine _ (List.mem_of_getElem? hi) b rfl with h1 | h1
  · omega
  · exact h1
theorem RdB.some {w : World} {v : Value} {l : List UInt8} (h : RdB w v l) (h0 : 0 < l.length) : ∃ L o c, v = .slice (some ⟨L, o, none⟩) l.length c ∧ Bytes w (some ⟨L, o, none⟩) l ∧ l.length ≤ c ∧ L < w.heap.size := by
  obtain ⟨A, c, h1, h2, h3, h4, h5⟩ := h.bytes
  obtain ⟨b, o, e, hc⟩ := h2 0 _ (List.getElem?_eq_getElem h0)
  subst e
  exact ⟨b, o, c, h1, h2, h3, block_lt_of_cell hc⟩
end
end Go.Wk
namespace Go.Wk
open Go Go.ChangeShapes Go.WideShapes Go.ChangeAt Go.RowKit
section
variable {H : Type} {enc : TypeId × Value → H} {P : Program} {W : World} {r : Reach} {base b0 : Nat} {sp : Nat → Bool} {held : Bool}
theorem choose_list {Q : Nat → Int × Int → Prop} : ∀ n : Nat, (∀ j, j < n → ∃ z, Q j z) → ∃ zs : List (Int × Int), zs.length = n ∧ ∀ j z, zs[j]? = some z → Q j z
  | 0, _ => ⟨[], rfl, fun j z h => by simp at h⟩
  | n + 1, h => by
    obtain ⟨zs, hl, hz⟩ := choose_list n (fun j hj => h j (by omega))
    obtain ⟨z, hq⟩ := h n (by omega)
    refine ⟨zs ++ [z], by simp [hl], fun j y hy => ?_⟩
    rcases Nat.lt_or_ge j n with hj | hj
    · rw [List.getElem?_append_left (by omega)] at hy; exact hz j y hy
    · have hj' : j < (zs ++ [z]).length := (List.getElem?_eq_some_iff.1 hy).1
      rw [List.length_append, hl] at hj'
      obtain rfl : n = j := by simp at hj'; omega
      rw [List.getElem?_append_right (by omega), hl, Nat.sub_self] at hy
      obtain rfl := Option.some.inj hy
      exact hq
theorem pair_elem {e : TypeId} {fs : Array Field} {f0 f1 : Field} {k0 k1 : IntKind} {n bs : Nat} {a : Addr} {y : DataW H × List MemPlace} (he : P.underlying e = some (.struct fs)) (hc : P.cellsOf e = 2)
    (hf0 : fs[0]? = some f0) (hf1 : fs[1]? = some f1) (o0 : f0.offset = 0) (o1 : f1.offset = 1) (u0 : P.underlying f0.type = some (.int k0)) (u1 : P.underlying f1.type = some (.int k1)) (c0 : P.cellsOf f0.type = 1) (c1 : P.cellsOf f1.type = 1)
    (h : (W.cells? bs a 2).bind (DataW.trod enc P W bs sp held n e) = some y) : ∃ z : Int × Int, W.cell? (a.add 0) = some (.int k0 z.1) ∧ W.cell? (a.add 1) = some (.int k1 z.2) ∧ (Lit.int k0 z.1).wf = true ∧ (Lit.int k1 z.2).wf = true := by
  rw [Option.bind_eq_some_iff] at h
  obtain ⟨cs, hcs, hy⟩ := h
  obtain ⟨xs, n', rfl, rfl, hl, hsz, hx⟩ := DataW.trod_struct he hy
  have h0 := hx 0 f0 hf0
  have h1 := hx 1 f1 hf1
  rw [o0, c0] at h0
  rw [o1, c1] at h1
  have s2 : 1 < fs.size := (Array.getElem?_eq_some_iff.1 hf1).1
  rw [List.getElem?_eq_getElem (by omega)] at h0 h1
  obtain ⟨m0, g0, _, w0⟩ := DataW.trod_int u0 h0
  obtain ⟨m1, g1, _, w1⟩ := DataW.trod_int u1 h1
  rw [hc] at hl
  match cs, hl, hcs, g0, g1 with
  | [p, q], _, hcs, g0, g1 =>
    simp only [List.drop_zero, List.take_succ_cons, List.take_zero, List.drop_succ_cons, List.cons.injEq, and_true] at g0 g1
    subst g0 g1
    have := (World.cells?_some hcs).2.2
    exact ⟨(m0, m1), by simpa using this 0 (by omega), by simpa using this 1 (by omega), w0, w1⟩
theorem trod_pairs {t e : TypeId} {fs : Array Field} {f0 f1 : Field} {k0 k1 : IntKind} {by_ fuel : Nat} {v : Value} {x : DataW H × List MemPlace} (hu : P.underlying t = some (.slice e)) (he : P.underlying e = some (.struct fs)) (hc : P.cellsOf e = 2) (hby : P.bytesOf e = by_)
    (hf0 : fs[0]? = some f0) (hf1 : fs[1]? = some f1) (o0 : f0.offset = 0) (o1 : f1.offset = 1) (u0 : P.underlying f0.type = some (.int k0)) (u1 : P.underlying f1.type = some (.int k1)) (c0 : P.cellsOf f0.type = 1) (c1 : P.cellsOf f1.type = 1)
    (hok : v = .slice none 0 0 ∨ ∃ b o n c, v = .slice (some ⟨b, o, none⟩) n c ∧ n ≤ c) (hf : DataW.trod enc P W b0 sp held fuel t [v] = some x) (hw : (DataW.weights P t x.1).all (· ≤ reachBytes) = true) :
    ∃ A c, ∃ zs : List (Int × Int), v = .slice A zs.length c ∧ zs.length ≤ c ∧ zs.length * by_ ≤ reachBytes ∧ (A = none → zs.length = 0 ∧ c = 0) ∧ (∀ a, A = some a → a.spot = none) ∧
      ∀ j z, zs[j]? = some z → (∃ b o, A = some ⟨b, o, none⟩ ∧ W.cell? ⟨b, o + j * 2, none⟩ = some (.int k0 z.1) ∧ W.cell? ⟨b, o + j * 2 + 1, none⟩ = some (.int k1 z.2)) ∧ (Lit.int k0 z.1).wf = true ∧ (Lit.int k1 z.2).wf = true := by
  rcases hok with rfl | ⟨b, o, n, c, rfl, hnc⟩
  · exact ⟨none, 0, [], rfl, Nat.le_refl _, by simp, (fun _ => ⟨rfl, rfl⟩), (fun a ha => by cases ha), fun j z h => by simp at h⟩
  · rcases DataW.trod_slice hu hf with ⟨h0, _⟩ | ⟨a, len, cap, elems, rest, m, _, h0, rfl, hb, hl, hm, hlen, hel, hsp, hns⟩
    · simp at h0
    · simp only [List.cons.injEq, Value.slice.injEq, Option.some.injEq, and_true] at h0
      obtain ⟨rfl, rfl, rfl⟩ := h0
      obtain ⟨zs, hzl, hz⟩ := choose_list (Q := fun j z => (W.cell? ⟨b, o + j * 2, none⟩ = some (.int k0 z.1) ∧ W.cell? ⟨b, o + j * 2 + 1, none⟩ = some (.int k1 z.2)) ∧ (Lit.int k0 z.1).wf = true ∧ (Lit.int k1 z.2).wf = true) n (fun j hj => by
        have h1 := hel j hj
        rw [hc, List.getElem?_eq_getElem (by omega)] at h1
        obtain ⟨z, g0, g1, w0, w1⟩ := pair_elem he hc hf0 hf1 o0 o1 u0 u1 c0 c1 h1
        refine ⟨z, ⟨?_, ?_⟩, w0, w1⟩
        · rw [Addr.add_off, Addr.add_off] at g0; exact g0
        · rw [Addr.add_off, Addr.add_off] at g1; exact g1)
      subst hzl
      refine ⟨some ⟨b, o, none⟩, c, zs, rfl, hnc, ?_, (fun h => by cases h), (fun a ha => by cases ha; rfl), fun j z h => ⟨⟨b, o, rfl, (hz j z h).1⟩, (hz j z h).2⟩⟩
      have hall := List.all_eq_true.1 hw
      unfold DataW.weights at hall
      rw [hu] at hall
      have := hall _ (List.mem_cons_self ..)
      simp only [decide_eq_true_eq, hby, List.length_map, hlen] at this
      exact Nat.le_trans (Nat.mul_le_mul_right _ (by omega)) this
theorem prC_split : ∀ {L : List (Int × BitVec 64)} {j : Nat} {u : Value}, (prC L)[j]? = some u → ∃ i c, L[i]? = some c ∧ ((j = i * 2 ∧ u = .int .i64 c.1) ∨ (j = i * 2 + 1 ∧ u = b64 c.2))
  | [], j, u, h => by simp [prC] at h
  | c :: L, 0, u, h => ⟨0, c, rfl, .inl ⟨rfl, by simpa [prC, eq_comm] using h⟩⟩
  | c :: L, 1, u, h => ⟨0, c, rfl, .inr ⟨rfl, by simpa [prC, eq_comm] using h⟩⟩
  | c :: L, j + 2, u, h => by
    obtain ⟨i, d, hd, hh⟩ := prC_split (L := L) (j := j) (u := u) (by simpa [prC] using h)
    exact ⟨i + 1, d, by simpa using hd, by rcases hh with ⟨h1, h2⟩ | ⟨h1, h2⟩; exact .inl ⟨by omega, h2⟩; exact .inr ⟨by omega, h2⟩⟩
theorem arg_undos {t e : TypeId} {fs : Array Field} {f0 f1 : Field} {v : Value} {d : DataW H} {ps : List MemPlace} (hu : P.underlying t = some (.slice e)) (he : P.underlying e = some (.struct fs)) (hc : P.cellsOf e = 2) (hby : P.bytesOf e = 16)
    (hf0 : fs[0]? = some f0) (hf1 : fs[1]? = some f1) (o0 : f0.offset = 0) (o1 : f1.offset = 1) (u0 : P.underlying f0.type = some (.int .i64)) (u1 : P.underlying f1.type = some (.int .u64)) (c0 : P.cellsOf f0.type = 1) (c1 : P.cellsOf f1.type = 1)
    (h : Value.okWide P W r base t v) (hd : DataW.Trod enc P W b0 sp held t v d ps) (hw : (DataW.weights P t d).all (· ≤ reachBytes) = true) :
    ∃ L : List (Int × BitVec 64), RdP W v L ∧ L.length ≤ 8796093022144 ∧ ∀ c ∈ L, -9223372036854775808 ≤ c.1 ∧ c.1 ≤ 9223372036854775807 := by
  obtain ⟨fuel, hf⟩ := hd
  have hok := arg_slice hu h
  have hv : v.cells.toList = [v] := by rcases hok with rfl | ⟨_, _, _, _, rfl, _⟩ <;> rfl
  rw [hv] at hf
  obtain ⟨A, c, zs, rfl, hl, hb, hn, hsp, hz⟩ := trod_pairs hu he hc hby hf0 hf1 o0 o1 u0 u1 c0 c1 hok hf hw
  refine ⟨zs.map fun z => (z.1, BitVec.ofInt 64 z.2), ⟨A, c, by rw [List.length_map], ?_, by rw [prC_length], by rw [List.length_map]; exact hl, by rw [List.length_map]; exact hn, fun _ => hsp⟩, by rw [List.length_map]; unfold reachBytes at hb; omega, fun y hy => ?_⟩
  · intro j u hj
    obtain ⟨i, q, hq, hh⟩ := prC_split hj
    rw [List.getElem?_map, Option.map_eq_some_iff] at hq
    obtain ⟨z, hzi, rfl⟩ := hq
    obtain ⟨⟨b, o, rfl, g0, g1⟩, w0, w1⟩ := hz i z hzi
    rcases hh with ⟨rfl, rfl⟩ | ⟨rfl, rfl⟩
    · exact ⟨b, o, rfl, g0⟩
    · refine ⟨b, o, rfl, ?_⟩
      rw [← Nat.add_assoc, g1]
      obtain ⟨x, hx⟩ := hasU64 (n := z.2) (by simpa [Lit.wf, IntKind.has] using w1)
      show _ = some (Value.int .u64 ((BitVec.ofInt 64 z.2).toNat : Int))
      rw [hx]; congr 2; simp
  · obtain ⟨z, hm, rfl⟩ := List.mem_map.1 hy
    obtain ⟨i, hi⟩ := List.getElem?_of_mem hm
    exact has64 (by simpa [Lit.wf, IntKind.has] using (hz i z hi).2.1)
end
end Go.Wk
namespace Go.Wk
open Go
section
variable {P : Program} {Γ : Ctx} {E E' : Env} {H : List Res} {ops : Array Oper} {Q : Exit → Act → World → Prop} {rest : List Oper}
  {d : Nat} {ty : TypeId} {pos : String} {after : Array Edge} {x y : Operand} {v : Value}
theorem prC_drop (l : List (Int × BitVec 64)) (k : Nat) (hk : k ≤ l.length) : (prC l).drop (k * 2) = prC (l.drop k) := by
  have h : prC l = prC (l.take k) ++ prC (l.drop k) := by rw [← prC_append, List.take_append_drop]
  have hl : (prC (l.take k)).length = k * 2 := by rw [prC_length, List.length_take, Nat.min_eq_left hk]
  rw [h, ← hl, List.drop_left]
theorem prC_set (l : List (Int × BitVec 64)) (k : Nat) (a : Int) (b : BitVec 64) (hk : k < l.length) : putAt (prC l) (k * 2) [.int .i64 a, b64 b] = prC (l.set k (a, b)) := by
  rw [List.set_eq_take_append_cons_drop, if_pos hk, prC_append, prC_take]
  unfold putAt
  rw [List.append_assoc]
  congr 1
  rw [show k * 2 + [Value.int .i64 a, b64 b].length = (k + 1) * 2 by simp; omega, prC_drop _ _ (by omega)]
  rfl
theorem At.storePairRow {i t e k : Nat} {a : Int} {b : BitVec 64} {l : List (Int × BitVec 64)} (hs : ∀ w, (sizeOf t).run P w = .ok 2 w) (hx : ev E x = some (.pointer (some ⟨rowB v, k * 2, none⟩))) (hy : ev E y = some (.agg #[.int .i64 a, b64 b])) (hi : H[i]? = some (rowR v e 2 l.length (prC l))) (hk : k < l.length)
    (kk : At Γ E (H.set i (prow e v (l.set k (a, b)))) (wpList P ops Q rest)) : At Γ E H (wpList P ops Q ({ dst := .none, op := .store t x y, type := ty, pos, after, guard := none } :: rest)) :=
  At.skip rfl rfl fun a' w ha hw => by
    obtain ⟨w', hr, hw'⟩ := storeCells_row (P := P) [.int .i64 a, b64 b] (k * 2) 0 (prC l) H w hw hi (by rw [prC_length]; simp; omega) (by simp [Value.oneCell', b64])
    rw [Nat.add_zero, prC_set l k a b hk] at hw'
    refine ⟨w', _, ?_, hw', ?_⟩
    · simp [execOp, ha.eval hx, ha.eval hy, Sem.run_bind, Instr.storeAt, Instr.sureAddr, storeVar, hs, Value.cells, hr]
    · have := kk
      unfold prow at this
      rwa [List.length_set] at this
end
end Go.Wk
namespace Go.Wk
open Go
section
variable {P : Program} {Γ : Ctx} {E E' : Env} {H HS : List Res} {ops : Array Oper} {Q : Exit → Act → World → Prop} {rest : List Oper}
  {d : Nat} {dst : Option Tmp} {ty : TypeId} {pos : String} {after : Array Edge} {x y z : Operand} {v u vy : Value} {g : Option (Nat × Bool)} {ψ : Act → Prop} {t' fuel : Nat} {listed : Array Bool}
end
end Go.Wk
namespace Go.Wk
open Go Go.ChangeShapes Go.WideShapes Go.ChangeAt Go.RowKit
section
variable {H : Type} {enc : TypeId × Value → H} {P : Program} {W : World} {r : Reach} {base b0 : Nat} {sp : Nat → Bool} {held : Bool}
theorem cell_slice {t e : TypeId} {v : Value} (hu : P.underlying t = some (.slice e)) (h : Cell.okWide P W r base t v) : v = .slice none 0 0 ∨ ∃ b o n c, v = .slice (some ⟨b, o, none⟩) n c ∧ n ≤ c :=
  arg_slice (r := r) (base := base) hu (by unfold Value.okWide; rw [hu]; exact h)
end
end Go.Wk
namespace Go.Wk
open Go Go.ChangeMaps
section
variable {P : Program} {Γ : Ctx} {E : Env} {H L F : List Res} {ops : Array Oper} {Q : Exit → Act → World → Prop} {rest : List Oper} {w0 w w' : World} {S : Nat → Prop} {φ : Act → World → Prop}
  {d : Nat} {dst : Option Tmp} {g : Option (Nat × Bool)} {ty : TypeId} {pos : String} {after : Array Edge} {x y z : Operand} {v u : Value}
def star (L : List Res) : Res where
  foot := feet L
  holds := fun w => L.Pairwise Apart ∧ ∀ r ∈ L, r.holds w
  stable := fun h hw => ⟨hw.1, fun r hr => r.stable (fun b hb => h b ⟨r, hr, hb⟩) (hw.2 r hr)⟩
  low := fun hw b ⟨r, hr, hb⟩ => r.low (hw.2 r hr) b hb
theorem Rep.openS (h : Rep w0 S (star L :: F) w) : Rep w0 S (L ++ F) w := by
  have hs := List.pairwise_cons.1 h.sep
  have hl := h.all (star L) (List.mem_cons_self ..)
  refine ⟨List.pairwise_append.2 ⟨hl.1, hs.2, fun r hr s hs' b hb hsb => hs.1 s hs' b ⟨r, hr, hb⟩ hsb⟩, fun r hr => ?_, fun r hr b hb => ?_, h.mod⟩
  · rcases List.mem_append.1 hr with h1 | h1
    · exact hl.2 r h1
    · exact h.all r (List.mem_cons_of_mem _ h1)
  · rcases List.mem_append.1 hr with h1 | h1
    · exact h.mine (star L) (List.mem_cons_self ..) b ⟨r, h1, hb⟩
    · exact h.mine r (List.mem_cons_of_mem _ h1) b hb
theorem Rep.shutS (h : Rep w0 S (L ++ F) w) : Rep w0 S (star L :: F) w := by
  have hs := List.pairwise_append.1 h.sep
  refine ⟨List.pairwise_cons.2 ⟨fun s hs' b ⟨r, hr, hb⟩ hsb => hs.2.2 r hr s hs' b hb hsb, hs.2.1⟩, fun r hr => ?_, fun r hr b hb => ?_, h.mod⟩
  · rcases List.mem_cons.1 hr with rfl | h1
    · exact ⟨hs.1, fun r hr => h.all r (List.mem_append_left _ hr)⟩
    · exact h.all r (List.mem_append_right _ h1)
  · rcases List.mem_cons.1 hr with rfl | h1
    · obtain ⟨r, hr, hb⟩ := hb
      exact h.mine r (List.mem_append_left _ hr) b hb
    · exact h.mine r (List.mem_append_right _ h1) b hb
theorem At.openS (i : Nat) (hi : H[i]? = some (star L)) (k : At Γ E (L ++ H.eraseIdx i) φ) : At Γ E H φ := fun a w ha hw => k a w ha (hw.perm (erase_perm H i _ hi)).openS
theorem At.shutS (k : At Γ E (star L :: H) φ) : At Γ E (L ++ H) φ := fun a w ha hw => k a w ha hw.shutS
theorem Rep.of_star {r : Res} (h : (star L).holds w) : Rep w (feet [star L]) L w :=
  ⟨h.1, h.2, fun r hr b hb => .inr ⟨star L, by simp, r, hr, hb⟩, Mod.refl _ _⟩
def factR (p : Prop) : Res where
  foot := fun _ => False
  holds := fun _ => p
  stable := fun _ h => h
  low := fun _ b hb => hb.elim
theorem At.fact {p : Prop} (i : Nat) (hi : H[i]? = some (factR p)) (k : p → At Γ E H φ) : At Γ E H φ := fun a w ha hw => k (hw.all _ (List.mem_of_getElem? hi)) a w ha hw
theorem Rep.fact {p : Prop} (hp : p) (h : Rep w0 S H w) : Rep w0 S (factR p :: H) w :=
  ⟨List.pairwise_cons.2 ⟨fun s _ b hb _ => hb.elim, h.sep⟩, fun r hr => by
    rcases List.mem_cons.1 hr with rfl | h1
    · exact hp
    · exact h.all r h1, fun r hr b hb => by
    rcases List.mem_cons.1 hr with rfl | h1
    · exact hb.elim
    · exact h.mine r h1 b hb, h.mod⟩
def upd {α : Type} (I : Nat → α) (k : Nat) (x : α) : Nat → α := fun j => if j = k then x else I j
theorem upd_at {α : Type} (I : Nat → α) (k : Nat) (x : α) : upd I k x k = x := by simp [upd]
theorem upd_ne {α : Type} (I : Nat → α) {k j : Nat} (x : α) (h : j ≠ k) : upd I k x j = I j := by simp [upd, h]
theorem upd_none {I : Nat → Option Res} {k j : Nat} {r : Res} (h : upd I k none j = some r) : j ≠ k ∧ I j = some r := by
  unfold upd at h; split at h
  · cases h
  · exact ⟨by assumption, h⟩
def fam (I : Nat → Option Res) : Res where
  foot := fun b => ∃ k r, I k = some r ∧ r.foot b
  holds := fun w => (∀ k r, I k = some r → r.holds w) ∧ ∀ k k' r r', I k = some r → I k' = some r' → k ≠ k' → Apart r r'
  stable := fun h hw => ⟨fun k r hk => r.stable (fun b hb => h b ⟨k, r, hk, hb⟩) (hw.1 k r hk), hw.2⟩
  low := fun hw b ⟨k, r, hk, hb⟩ => r.low (hw.1 k r hk) b hb
theorem Rep.focus {I : Nat → Option Res} {k : Nat} {r : Res} (hk : I k = some r) (h : Rep w0 S (fam I :: F) w) : Rep w0 S (r :: fam (upd I k none) :: F) w := by
  have hs := List.pairwise_cons.1 h.sep
  have hl := h.all (fam I) (List.mem_cons_self ..)
  have hm := h.mine (fam I) (List.mem_cons_self ..)
  refine ⟨List.pairwise_cons.2 ⟨fun s hs' b hb hsb => ?_, List.pairwise_cons.2 ⟨fun s hs' b ⟨k', r', hk', hb⟩ hsb => ?_, hs.2⟩⟩, fun s hs' => ?_, fun s hs' b hb => ?_, h.mod⟩
  · rcases List.mem_cons.1 hs' with rfl | h1
    · obtain ⟨k', r', hk', hb'⟩ := hsb
      obtain ⟨h2, h3⟩ := upd_none hk'
      exact hl.2 _ _ _ _ hk h3 (Ne.symm h2) b hb hb'
    · exact hs.1 s h1 b ⟨k, r, hk, hb⟩ hsb
  · exact hs.1 s hs' b ⟨k', r', (upd_none hk').2, hb⟩ hsb
  · rcases List.mem_cons.1 hs' with rfl | h1
    · exact hl.1 _ _ hk
    · rcases List.mem_cons.1 h1 with rfl | h1
      · exact ⟨fun j q hj => hl.1 _ _ (upd_none hj).2, fun j j' q q' hj hj' hne => hl.2 _ _ _ _ (upd_none hj).2 (upd_none hj').2 hne⟩
      · exact h.all s (List.mem_cons_of_mem _ h1)
  · rcases List.mem_cons.1 hs' with rfl | h1
    · exact hm b ⟨k, _, hk, hb⟩
    · rcases List.mem_cons.1 h1 with rfl | h1
      · obtain ⟨k', r', hk', hb'⟩ := hb
        exact hm b ⟨k', r', (upd_none hk').2, hb'⟩
      · exact h.mine s (List.mem_cons_of_mem _ h1) b hb
theorem upd_some {I : Nat → Option Res} {k j : Nat} {r q : Res} (h : upd I k (some r) j = some q) : (j = k ∧ q = r) ∨ (j ≠ k ∧ I j = some q) := by
  unfold upd at h; split at h
  · exact .inl ⟨by assumption, (Option.some.inj h).symm⟩
  · exact .inr ⟨by assumption, h⟩
theorem Rep.unfocus {I : Nat → Option Res} {k : Nat} {r : Res} (hk : I k = none) (h : Rep w0 S (r :: fam I :: F) w) : Rep w0 S (fam (upd I k (some r)) :: F) w := by
  have hs := List.pairwise_cons.1 h.sep
  have hs2 := List.pairwise_cons.1 hs.2
  have hl := h.all (fam I) (by simp)
  have hr := h.all r (by simp)
  refine ⟨List.pairwise_cons.2 ⟨fun s hs' b ⟨k', r', hk', hb⟩ hsb => ?_, hs2.2⟩, fun s hs' => ?_, fun s hs' b hb => ?_, h.mod⟩
  · rcases upd_some hk' with ⟨_, rfl⟩ | ⟨_, h1⟩
    · exact hs.1 s (List.mem_cons_of_mem _ hs') b hb hsb
    · exact hs2.1 s hs' b ⟨k', r', h1, hb⟩ hsb
  · rcases List.mem_cons.1 hs' with rfl | h1
    · refine ⟨fun j q hj => ?_, fun j j' q q' hj hj' hne => ?_⟩
      · rcases upd_some hj with ⟨_, rfl⟩ | ⟨_, h1⟩
        · exact hr
        · exact hl.1 _ _ h1
      · rcases upd_some hj with ⟨e1, rfl⟩ | ⟨_, h1⟩
        · rcases upd_some hj' with ⟨e2, rfl⟩ | ⟨_, h2⟩
          · exact absurd (e1.trans e2.symm) hne
          · exact fun b hb hb' => hs.1 (fam I) (by simp) b hb ⟨_, _, h2, hb'⟩
        · rcases upd_some hj' with ⟨e2, rfl⟩ | ⟨_, h2⟩
          · exact fun b hb hb' => hs.1 (fam I) (by simp) b hb' ⟨_, _, h1, hb⟩
          · exact hl.2 _ _ _ _ h1 h2 hne
    · exact h.all s (List.mem_cons_of_mem _ (List.mem_cons_of_mem _ h1))
  · rcases List.mem_cons.1 hs' with rfl | h1
    · obtain ⟨k', r', hk', hb'⟩ := hb
      rcases upd_some hk' with ⟨_, rfl⟩ | ⟨_, h1⟩
      · exact h.mine _ (by simp) b hb'
      · exact h.mine (fam I) (by simp) b ⟨_, _, h1, hb'⟩
    · exact h.mine s (List.mem_cons_of_mem _ (List.mem_cons_of_mem _ h1)) b hb
def Win (w : World) (v : Value) (e : TypeId) (xs : List Value) : Prop :=
  (v = .slice none 0 0 ∧ xs = []) ∨ ∃ b o c cur, v = .slice (some ⟨b, o, none⟩) xs.length c ∧ w.heap[b]? = some (.cells cur e (0, 0)) ∧ xs.length ≤ c ∧ c ≤ maxLen ∧ o + c ≤ cur.size ∧ ∀ j u, xs[j]? = some u → cur[o + j]? = some u
def winR (v : Value) (e : TypeId) (xs : List Value) : Res where
  foot := fun x => v.ownBlock = some x
  holds := fun w => Win w v e xs
  stable := fun {w w'} h hw => by
    rcases hw with h1 | ⟨b, o, c, cur, rfl, hb, r⟩
    · exact .inl h1
    · exact .inr ⟨b, o, c, cur, rfl, (h b rfl).trans hb, r⟩
  low := fun {w} hw x hx => by
    rcases hw with ⟨rfl, _⟩ | ⟨b, o, c, cur, rfl, hb, r⟩
    · cases hx
    · simp only [Value.ownBlock, Option.some.injEq] at hx
      subst hx
      exact (Array.getElem?_eq_some_iff.1 hb).1
theorem own_win {base e n : Nat} {xs : List Value} (h : w.ownsRow base e 1 v n xs) : Win w v e xs := by
  obtain ⟨hl, h⟩ := h
  rw [Nat.mul_one] at hl
  subst hl
  rcases h with ⟨rfl, h0⟩ | ⟨b, cap, cur, rfl, _, hb, h1, h2, h3, h4⟩
  · exact .inl ⟨rfl, List.eq_nil_of_length_eq_zero h0⟩
  · refine .inr ⟨b, 0, cap, cur, rfl, hb, h1, h2, by omega, fun j u hj => ?_⟩
    rw [Nat.zero_add, ← Array.getElem?_toList]
    rw [← h4, List.getElem?_take] at hj
    split at hj
    · exact hj
    · cases hj
theorem Val.lenWin {i t el e : Nat} {xs : List Value} (hi : H[i]? = some (winR v e xs)) (hu : P.underlying t = some (.slice el)) (hx : ev E x = some v) :
    Val P Γ E H ⟨dst, .call { callee := .builtin .len, args := #[x], argTypes := #[t] }, ty, pos, after, g⟩ (.int .i64 xs.length) := fun a w ha hw => by
  have h : Win w v e xs := hw.all _ (List.mem_of_getElem? hi)
  rcases h with ⟨rfl, rfl⟩ | ⟨b, o, c, cur, rfl, _⟩
  · exact Val.len (bt := #[]) hu hx a w ha hw
  · exact Val.len (bt := #[]) hu hx a w ha hw
theorem Win.at {e b o n c j : Nat} {xs : List Value} (h : Win w (.slice (some ⟨b, o, none⟩) n c) e xs) (hv : xs[j]? = some u) : w.cell? ⟨b, o + j, none⟩ = some u := by
  rcases h with ⟨h1, _⟩ | ⟨b', o', c', cur, h1, hb, _, _, _, h2⟩
  · cases h1
  · simp only [Value.slice.injEq, Option.some.injEq, Addr.mk.injEq] at h1
    obtain ⟨⟨rfl, rfl, _⟩, _, _⟩ := h1
    rw [cell_of_row w _ _ cur e _ hb]
    exact h2 j u hv
theorem At.winCut (i l : Nat) {e b o n c : Nat} {xs : List Value} (hi : H[i]? = some (winR (.slice (some ⟨b, o, none⟩) n c) e xs)) (hl : l ≤ xs.length)
    (k : At Γ E (H.set i (winR (.slice (some ⟨b, if c = l then o else o + l * 1, none⟩) (n - l) (c - l)) e (xs.drop l))) φ) : At Γ E H φ := fun a w ha hw => by
  have h : Win w (.slice (some ⟨b, o, none⟩) n c) e xs := hw.all _ (List.mem_of_getElem? hi)
  refine k a w ha (hw.change hi (Mod.refl _ _) ?_ (fun b' hb => .inl hb))
  rcases h with ⟨h1, _⟩ | ⟨b', o', c', cur, h1, hb, g1, g2, g3, g4⟩
  · cases h1
  · simp only [Value.slice.injEq, Option.some.injEq, Addr.mk.injEq] at h1
    obtain ⟨⟨rfl, rfl, _⟩, rfl, rfl⟩ := h1
    refine .inr ⟨b, _, _, cur, by rw [List.length_drop], hb, by rw [List.length_drop]; omega, by omega, ?_, fun j u hj => ?_⟩
    · split <;> omega
    · rw [List.getElem?_drop] at hj
      have hlt := (List.getElem?_eq_some_iff.1 hj).1
      rw [if_neg (by omega), Nat.mul_one, Nat.add_assoc]
      exact g4 _ _ hj
theorem At.appendWin1 {i j t e by_ b' U : Nat} {ti : TypeInfo} {z : Value} {xs : List Value} (ht : P.underlying t = some (.slice e)) (hti : P.info? e = some ti) (hz : ti.zero = some z) (hsize : ti.size = 1) (hby : ti.bytes = by_) (hzs : z.cells.size = 1)
    (hx : ev E x = some v) (hy : ev E y = some (.slice (some ⟨b', 0, none⟩) 1 1)) (hi : H[i]? = some (winR v e xs)) (hj : H[j]? = some (blk b' U [u])) (h1 : u.oneCell' = true) (h63 : (xs.length + 1) * by_ ≤ 140737488355328) (h64 : xs.length + 1 ≤ 140737488355328) (hn : Nat.blt d Γ.n = true)
    (k : ∀ v', At Γ ((d, v') :: E) (H.set i (winR v' e (xs ++ [u]))) (wpList P ops Q rest)) :
    At Γ E H (wpList P ops Q ({ dst := some d, op := .call { callee := .builtin .append, args := #[x, y], argTypes := #[t, t] }, type := ty, pos, after, guard := none } :: rest)) :=
  At.run rfl rfl hn fun a w ha hw => by
    have h : Win w v e xs := hw.all _ (List.mem_of_getElem? hi)
    have hc : ∀ j' u', ([u] : List Value)[j']? = some u' → w.cell? ((⟨b', 0, none⟩ : Addr).add j') = some u' := fun j' u' hj' => by rw [Addr.add_off, Nat.zero_add]; exact ((hw.blk hj).cell j').trans hj'
    have h1' : ∀ q ∈ [u], q.oneCell' = true := by simpa using h1
    rcases h with ⟨rfl, rfl⟩ | ⟨b, o, c, cur, rfl, hb, g1, g2, g3, g4⟩
    · obtain ⟨v', w', hr, ho, hg, hf⟩ := run_append_row (P := P) (ty := ty) ht hti hz hsize hby hzs (by omega) (w := w) (v := .slice none 0 0) (n := 0) (xs := []) ⟨by simp, .inl ⟨rfl, rfl⟩⟩ (a := ⟨b', 0, none⟩) (m := 1) (c := 1) (news := [u]) rfl hc h1' (by simp [maxLen]) (by simpa using h63)
      exact ⟨v', w', _, by simp [execOp, resolve, invoke, builtin, ha.eval hx, ha.eval hy, Sem.run_bind, hr], hw.change (r' := winR v' e ([] ++ [u])) hi (grown_mod hg) (own_win ho) hf, k v'⟩
    · by_cases hroom : xs.length + 1 ≤ c
      · have hcell : ∀ q, q < cur.size → w.cell? ⟨b, q, none⟩ = some (cur[q]?.getD undef) := fun q hq => by rw [cell_of_row w _ _ cur e _ hb, Array.getElem?_eq_getElem hq]; rfl
        have hr := run_append_room_cells (P := P) (w := w) t ty e ti ht hti b o xs.length c ⟨b', 0, none⟩ 1 1 [u] (by rw [hsize]; rfl) hc h1' hroom
          (fun j' hj' => by simp at hj'; subst hj'; rw [hsize, hcell _ (by omega)]; rfl) (fun j' hj' => by simp [World.frozen?, hb])
        refine ⟨_, _, _, by simp [execOp, resolve, invoke, builtin, ha.eval hx, ha.eval hy, Sem.run_bind, hr]; exact ⟨rfl, rfl⟩, ?_, k _⟩
        refine hw.change (r' := winR (.slice (some ⟨b, o, none⟩) (xs.length + 1) c) e (xs ++ [u])) hi ?_ ?_ (fun b hb => .inl hb)
        · exact (Mod.setCell w ⟨b, _, none⟩ u).mono fun x' hx' => by subst hx'; rfl
        · refine .inr ⟨b, o, c, cur.setIfInBounds (o + xs.length * ti.size) u, by simp, ?_, by simpa using hroom, g2, by simpa using g3, fun j' u' hj' => ?_⟩
          · show (w.setCell ⟨b, o + xs.length * ti.size, none⟩ u).heap[b]? = _
            rw [setCell_eq_setRow w b _ cur e (0, 0) u hb, setRow_heap w b _ _ e (0, 0) hb]
          · rw [hsize, Nat.mul_one]
            rcases Nat.lt_or_ge j' xs.length with hlt | hge
            · rw [List.getElem?_append_left hlt] at hj'
              rw [Array.getElem?_setIfInBounds_ne (by omega)]
              exact g4 _ _ hj'
            · rw [List.getElem?_append_right hge] at hj'
              have : j' = xs.length := by
                have := (List.getElem?_eq_some_iff.1 hj').1
                simp at this; omega
              subst this
              rw [Nat.sub_self] at hj'
              have : u = u' := by simpa using hj'
              subst this
              rw [Array.getElem?_setIfInBounds_self, if_pos (by omega)]
      · obtain ⟨v', w', hr, ho, hg⟩ := run_append_arg_grows (P := P) (w := w) t ty e ti z 1 by_ ht hti hz hsize hby hzs (by omega) ⟨b, o, none⟩ xs.length c xs (by omega)
          (fun j' u' hj' => by rw [Addr.add_off, cell_of_row w _ _ cur e _ hb]; exact g4 _ _ hj') ⟨b', 0, none⟩ 1 1 [u] rfl hc (by omega) (by simp only [maxLen]; omega) h63
        exact ⟨v', w', _, by simp [execOp, resolve, invoke, builtin, ha.eval hx, ha.eval hy, Sem.run_bind, hr], hw.change (r' := winR v' e (xs ++ [u])) hi ((grown_none hg).mono fun b hb => hb.elim) (own_win ho) (fun q hq => .inr (own_block ho q hq)), k v'⟩
theorem Val.neNil {t t' : TypeId} {p : Option Addr} (h : P.underlying t = some (.pointer (P.pointee t))) (hx : ev E x = some (.pointer p)) : Val P Γ E H ⟨dst, .binOp .neq t x (.const (.pointer none)) t', ty, pos, after, g⟩ (.bool p.isSome) := fun a w ha _ => by
  have hc : a.eval (.const (.pointer none)) = .pointer none := rfl
  cases p <;> simp [execOp, ha.eval hx, hc, eqGuard, run_neq_pointer_nil w t _ h]
theorem Val.eqNil {t t' : TypeId} {p : Option Addr} (h : P.underlying t = some (.pointer (P.pointee t))) (hx : ev E x = some (.pointer p)) : Val P Γ E H ⟨dst, .binOp .eql t x (.const (.pointer none)) t', ty, pos, after, g⟩ (.bool p.isNone) := fun a w ha _ => by
  have hc : a.eval (.const (.pointer none)) = .pointer none := rfl
  cases p <;> simp [execOp, ha.eval hx, hc, eqGuard, run_eql_pointer_nil w t _ h]
end
end Go.Wk
namespace Go.Wk
open Go Go.ChangeMaps
abbrev kv (k : Int) : Value := .int .i64 k
structure Ent (f : Int → Option Value) (E : Array MapEntry) (clock : Nat) : Prop where
  int : ∀ x ∈ E.toList, ∃ k, x.key = kv k
  keys : (E.toList.map (·.key)).Nodup
  stamps : (E.toList.map (·.born)).Nodup
  old : ∀ x ∈ E.toList, x.born < clock
  get : ∀ k v, f k = some v ↔ ∃ x ∈ E.toList, x.key = kv k ∧ x.val = v
theorem key_inj {l : List MapEntry} (h : (l.map (·.key)).Nodup) {x y : MapEntry} (hx : x ∈ l) (hy : y ∈ l) (e : x.key = y.key) : x = y := by
  induction l with
  | nil => cases hx
  | cons a l ih =>
    simp only [List.map_cons, List.nodup_cons, List.mem_map, not_exists, not_and] at h
    rcases List.mem_cons.1 hx with rfl | hx' <;> rcases List.mem_cons.1 hy with rfl | hy'
    · rfl
    · exact absurd e.symm (h.1 y hy')
    · exact absurd e (h.1 x hx')
    · exact ih h.2 hx' hy'
theorem Ent.find {f : Int → Option Value} {E : Array MapEntry} {clock : Nat} (h : Ent f E clock) (k : Int) :
    (Instr.findNow (.int .i64) (kv k) E.toList 0 = some none ∧ f k = none) ∨ ∃ j e, Instr.findNow (.int .i64) (kv k) E.toList 0 = some (some (j, e.val)) ∧ E.toList[j]? = some e ∧ e.key = kv k ∧ f k = some e.val := by
  have hk : MapKept.IsKey (.int .i64) (kv k) := by simp [MapKept.IsKey]
  rcases MapKept.findNow_spec hk E.toList 0 (fun x hx => by obtain ⟨q, hq⟩ := h.int x hx; rw [hq]; simp [MapKept.IsKey]) with ⟨h1, h2⟩ | ⟨j, e, h1, h2, h3⟩
  · refine .inl ⟨h1, ?_⟩
    cases hf : f k with
    | none => rfl
    | some v => obtain ⟨x, hx, hxk, _⟩ := (h.get k v).1 hf; exact absurd hxk (h2 x hx)
  · exact .inr ⟨j, e, by simpa using h1, h2, h3, (h.get k _).2 ⟨e, List.mem_of_getElem? h2, h3, rfl⟩⟩
theorem Ent.nil (clock : Nat) : Ent (fun _ => none) #[] clock := ⟨by simp, by simp, by simp, by simp, by simp⟩
theorem Ent.push {f : Int → Option Value} {E : Array MapEntry} {clock : Nat} (h : Ent f E clock) {k : Int} (hk : f k = none) (v : Value) : Ent (fun x => if x = k then some v else f x) (E.push { key := kv k, val := v, born := clock }) (clock + 1) := by
  have hno : ∀ x ∈ E.toList, x.key ≠ kv k := fun x hx e => by
    have := (h.get k x.val).2 ⟨x, hx, e, rfl⟩
    rw [hk] at this; cases this
  refine ⟨fun x hx => ?_, ?_, ?_, fun x hx => ?_, fun q u => ?_⟩
  · simp only [Array.toList_push, List.mem_append, List.mem_singleton] at hx
    rcases hx with hx | rfl
    · exact h.int x hx
    · exact ⟨k, rfl⟩
  · simp only [Array.toList_push, List.map_append, List.map_cons, List.map_nil]
    refine List.nodup_append.2 ⟨h.keys, by simp, fun a ha b hb => ?_⟩
    obtain ⟨x, hx, rfl⟩ := List.mem_map.1 ha
    rw [List.mem_singleton.1 hb]
    exact hno x hx
  · simp only [Array.toList_push, List.map_append, List.map_cons, List.map_nil]
    refine List.nodup_append.2 ⟨h.stamps, by simp, fun a ha b hb => ?_⟩
    obtain ⟨x, hx, rfl⟩ := List.mem_map.1 ha
    rw [List.mem_singleton.1 hb]
    have := h.old x hx
    show x.born ≠ clock
    omega
  · simp only [Array.toList_push, List.mem_append, List.mem_singleton] at hx
    rcases hx with hx | rfl
    · have := h.old x hx; omega
    · simp
  · simp only [Array.toList_push, List.mem_append, List.mem_singleton]
    by_cases hq : q = k
    · subst hq
      simp only [if_true]
      constructor
      · intro e; have e := Option.some.inj e; subst e; exact ⟨_, .inr rfl, rfl, rfl⟩
      · rintro ⟨x, hx | rfl, h1, h2⟩
        · exact absurd h1 (hno x hx)
        · rw [← h2]
    · rw [if_neg hq, h.get q u]
      constructor
      · rintro ⟨x, hx, h1, h2⟩; exact ⟨x, .inl hx, h1, h2⟩
      · rintro ⟨x, hx | rfl, h1, h2⟩
        · exact ⟨x, hx, h1, h2⟩
        · simp only [kv, Value.int.injEq, true_and] at h1; exact absurd h1.symm hq
theorem Ent.erase {f : Int → Option Value} {E E' : Array MapEntry} {clock j : Nat} {e : MapEntry} (h : Ent f E clock) {k : Int} (hj : E.toList[j]? = some e) (hk : e.key = kv k) (hE : E'.toList = E.toList.eraseIdx j) : Ent (fun x => if x = k then none else f x) E' clock := by
  have hs : (E.toList.eraseIdx j).Sublist E.toList := List.eraseIdx_sublist ..
  have hm : ∀ x, x ∈ E'.toList ↔ x ∈ E.toList ∧ x.key ≠ kv k := fun x => by
    rw [hE, List.mem_eraseIdx_iff_getElem?]
    constructor
    · rintro ⟨i, hne, hi⟩
      refine ⟨List.mem_of_getElem? hi, fun e1 => hne ?_⟩
      have hxe : x = e := key_inj h.keys (List.mem_of_getElem? hi) (List.mem_of_getElem? hj) (e1.trans hk.symm)
      subst hxe
      have h1 := (List.getElem?_eq_some_iff.1 hi)
      have h2 := (List.getElem?_eq_some_iff.1 hj)
      have hn : E.toList.Nodup := List.Pairwise.imp (fun {a b} hab e => hab (congrArg MapEntry.key e)) (List.pairwise_map.1 h.keys)
      rcases Nat.lt_trichotomy i j with hlt | hlt | hlt
      · exact absurd (h1.2.trans h2.2.symm) (List.pairwise_iff_getElem.1 hn i j h1.1 h2.1 hlt)
      · exact hlt
      · exact absurd (h2.2.trans h1.2.symm) (List.pairwise_iff_getElem.1 hn j i h2.1 h1.1 hlt)
    · rintro ⟨hx, hne⟩
      obtain ⟨i, hi⟩ := List.getElem?_of_mem hx
      refine ⟨i, fun e1 => hne ?_, hi⟩
      rw [e1, hj] at hi; cases hi; exact hk
  refine ⟨fun x hx => h.int x ((hm x).1 hx).1, ?_, ?_, fun x hx => h.old x ((hm x).1 hx).1, fun q u => ?_⟩
  · rw [hE]; exact h.keys.sublist (hs.map _)
  · rw [hE]; exact h.stamps.sublist (hs.map _)
  · by_cases hq : q = k
    · subst hq
      simp only [if_true]
      constructor
      · intro e; cases e
      · rintro ⟨x, hx, h1, h2⟩; exact absurd h1 ((hm x).1 hx).2
    · rw [if_neg hq, h.get q u]
      constructor
      · rintro ⟨x, hx, h1, h2⟩
        refine ⟨x, (hm x).2 ⟨hx, fun e1 => hq ?_⟩, h1, h2⟩
        rw [h1] at e1; simpa [kv] using e1
      · rintro ⟨x, hx, h1, h2⟩; exact ⟨x, ((hm x).1 hx).1, h1, h2⟩
def mapR (b : Nat) (f : Int → Option Value) : Res where
  foot := fun x => x = b
  holds := fun w => ∃ E clock, w.heap[b]? = some (.map E clock) ∧ Ent f E clock
  stable := fun h ⟨E, clock, hb, he⟩ => ⟨E, clock, (h b rfl).trans hb, he⟩
  low := fun ⟨E, clock, hb, he⟩ x hx => by subst hx; exact (Array.getElem?_eq_some_iff.1 hb).1
def iterR (b r : Nat) (f : Int → Option Value) (left : Int → Bool) (cur : Option (Int × Value)) (cnt : Nat) : Res where
  foot := fun x => x = b ∨ x = r
  holds := fun w => ∃ E clock since seen c0, r ≠ b ∧ w.heap[b]? = some (.map E clock) ∧ Ent f E clock ∧ w.heap[r]? = some (.mapIter (some b) since seen c0) ∧ (∀ x ∈ E.toList, x.born < since) ∧ since ≤ c0 ∧ since ≤ clock ∧
    (∀ x ∈ E.toList, ∀ k, x.key = kv k → left k = !seen.contains x.born) ∧ (∀ k, left k = true → f k ≠ none) ∧ (leftOf E seen).size = cnt ∧ (∀ k v, cur = some (k, v) → c0 = clock ∧ ∃ (s : Array Nat) (x : MapEntry), seen = s.push x.born ∧ x ∈ E.toList ∧ x.key = kv k ∧ x.val = v)
  stable := fun h ⟨E, clock, since, seen, c0, hne, hb, he, hr, hh⟩ => ⟨E, clock, since, seen, c0, hne, (h b (.inl rfl)).trans hb, he, (h r (.inr rfl)).trans hr, hh⟩
  low := fun ⟨E, clock, since, seen, c0, hne, hb, he, hr, hh⟩ x hx => by
    rcases hx with rfl | rfl
    · exact (Array.getElem?_eq_some_iff.1 hb).1
    · exact (Array.getElem?_eq_some_iff.1 hr).1
section
variable {P : Program} {Γ : Ctx} {E : Env} {H L F : List Res} {ops : Array Oper} {Q : Exit → Act → World → Prop} {rest : List Oper} {w0 w w' : World} {S : Nat → Prop} {φ : Act → World → Prop}
  {d : Nat} {dst : Option Tmp} {g : Option (Nat × Bool)} {ty : TypeId} {pos : String} {after : Array Edge} {x y z : Operand} {v u : Value} {f : Int → Option Value} {left : Int → Bool} {cur : Option (Int × Value)} {cnt b r i : Nat} {t kt et : TypeId}
theorem Mod.setBlock (w : World) (b : Nat) (o : Obj) : Mod (fun x => x = b) w (setBlock w b o) :=
  ⟨by simp [ChangeMaps.setBlock], fun x _ hn => by simp only [ChangeMaps.setBlock]; rw [Array.getElem?_setIfInBounds_ne (Ne.symm hn)], rfl, rfl, rfl⟩
theorem setBlock_at {w : World} {b : Nat} {o o' : Obj} (h : w.heap[b]? = some o) : (setBlock w b o').heap[b]? = some o' := by
  have := (Array.getElem?_eq_some_iff.1 h).1
  simp [ChangeMaps.setBlock, this]
theorem setBlock_ne {w : World} {b b' : Nat} {o' : Obj} (h : b' ≠ b) : (setBlock w b o').heap[b']? = w.heap[b']? := by
  simp only [ChangeMaps.setBlock]; rw [Array.getElem?_setIfInBounds_ne (Ne.symm h)]
theorem run_setMap {w : World} {r : Nat} {es : Array MapEntry} {clock : Nat} (o : Obj) (hb : w.heap[r]? = some (.map es clock)) : (setObj r o).run P w = .ok () (setBlock w r o) := MapKept.run_setObj_map o hb
theorem Val.look {k : Int} (hu : P.underlying t = some (.map kt et)) (hk : P.underlying kt = some (.int .i64)) (hz : ∀ w, (zeroValue et).run P w = .ok (.pointer none) w) (hx : ev E x = some (.map (some b))) (hy : ev E y = some (.int .i64 k)) (hi : H[i]? = some (mapR b f)) :
    Val P Γ E H ⟨dst, .lookup t x y false, ty, pos, after, g⟩ ((f k).getD (.pointer none)) := fun a w ha hw => by
  obtain ⟨es, clock, hb, he⟩ : ∃ es clock, w.heap[b]? = some (.map es clock) ∧ Ent f es clock := hw.all _ (List.mem_of_getElem? hi)
  have hck := fun e => MapKept.run_checkKey (P := P) (w := w) (k := kv k) hk (by simp [MapKept.IsKey]) e 9999
  rcases he.find k with ⟨h1, h2⟩ | ⟨j, e, h1, h2, h3, h4⟩
  · simp [execOp, ha.eval hx, ha.eval hy, Instr.lookup, Sem.run_bind, run_underlying hu, MapKept.run_getObj_map hb, hck, MapKept.run_findKey hk h1, hz, h2]
  · simp [execOp, ha.eval hx, ha.eval hy, Instr.lookup, Sem.run_bind, run_underlying hu, MapKept.run_getObj_map hb, hck, MapKept.run_findKey hk h1, h4]
theorem At.mapSet {k : Int} (hu : P.underlying t = some (.map kt et)) (hk : P.underlying kt = some (.int .i64)) (hx : ev E x = some (.map (some b))) (hy : ev E y = some (.int .i64 k)) (hz : ev E z = some v) (hi : H[i]? = some (mapR b f)) (hf : f k = none)
    (c : At Γ E (H.set i (mapR b fun q => if q = k then some v else f q)) (wpList P ops Q rest)) : At Γ E H (wpList P ops Q ({ dst := .none, op := .mapUpdate t x y z, type := ty, pos, after, guard := none } :: rest)) :=
  At.skip rfl rfl fun a w ha hw => by
    obtain ⟨es, clock, hb, he⟩ : ∃ es clock, w.heap[b]? = some (.map es clock) ∧ Ent f es clock := hw.all _ (List.mem_of_getElem? hi)
    have hck := fun e => MapKept.run_checkKey (P := P) (w := w) (k := kv k) hk (by simp [MapKept.IsKey]) e 9999
    rcases he.find k with ⟨h1, h2⟩ | ⟨j, e, h1, h2, h3, h4⟩
    · refine ⟨_, _, by simp [execOp, ha.eval hx, ha.eval hy, ha.eval hz, Instr.mapUpdate, Sem.run_bind, run_underlying hu, MapKept.run_getObj_map hb, hck, MapKept.run_findKey hk h1, run_setMap _ hb]; rfl, ?_, c⟩
      exact hw.change (r' := mapR b _) hi (Mod.setBlock w b _) ⟨_, _, setBlock_at hb, he.push hf v⟩ (fun b hb => .inl hb)
    · rw [hf] at h4; cases h4
theorem At.makeMap (hn : Nat.blt d Γ.n = true) (c : ∀ b, At Γ ((d, .map (some b)) :: E) (mapR b (fun _ => none) :: H) (wpList P ops Q rest)) :
    At Γ E H (wpList P ops Q ({ dst := some d, op := .makeMap t .none, type := ty, pos, after, guard := none } :: rest)) :=
  At.run rfl rfl hn fun a w ha hw => ⟨.map (some w.heap.size), w.alloc (.map #[] 0), _, by
    have h0 : (Instr.makeMap t none).run P w = .ok (.map (some w.heap.size)) (w.alloc (.map #[] 0)) := rfl
    simp [execOp, Sem.run_bind, h0], hw.new (r' := mapR w.heap.size fun _ => none) (Mod.alloc w _) ⟨#[], 0, heap_alloc_new w _, Ent.nil 0⟩ (fun b hb => by simp only [mapR] at hb; omega), c _⟩
theorem At.range (hu : P.underlying t = some (.map kt et)) (hx : ev E x = some (.map (some b))) (hi : H[i]? = some (mapR b f)) (hn : Nat.blt d Γ.n = true)
    (c : ∀ r cnt, At Γ ((d, .pointer (some ⟨r, 0, none⟩)) :: E) (H.set i (iterR b r f (fun k => (f k).isSome) none cnt)) (wpList P ops Q rest)) :
    At Γ E H (wpList P ops Q ({ dst := some d, op := .range t x, type := ty, pos, after, guard := none } :: rest)) :=
  At.run rfl rfl hn fun a w ha hw => by
    obtain ⟨es, clock, hb, he⟩ : ∃ es clock, w.heap[b]? = some (.map es clock) ∧ Ent f es clock := hw.all _ (List.mem_of_getElem? hi)
    have hlt := (Array.getElem?_eq_some_iff.1 hb).1
    refine ⟨_, _, _, by simp [execOp, ha.eval hx, Sem.run_bind, run_range_map w t kt et b es clock hu hb]; exact ⟨rfl, rfl⟩, ?_, c _ (leftOf es #[]).size⟩
    refine hw.change (r' := iterR b w.heap.size f _ none _) hi ((Mod.alloc w _).mono fun b hb => hb.elim) ⟨es, clock, clock, #[], clock, by omega, (heap_alloc_old w _ hlt).trans hb, he, heap_alloc_new w _, he.old, Nat.le_refl _, Nat.le_refl _, fun q hq k hk => ?_, fun k hk => ?_, rfl, (fun k v h => by cases h)⟩ (fun q hq => ?_)
    · show (f k).isSome = _
      rw [(he.get k q.val).2 ⟨q, hq, hk, rfl⟩]; simp
    · intro h0
      have hk : (f k).isSome = true := hk
      rw [h0] at hk; cases hk
    · rcases hq with rfl | rfl
      · exact .inl rfl
      · exact .inr (Nat.le_refl _)
theorem At.next (hx : ev E x = some (.pointer (some ⟨r, 0, none⟩))) (hi : H[i]? = some (iterR b r f left cur cnt)) (hn : Nat.blt d Γ.n = true)
    (c0 : (∀ k, left k = false) → At Γ ((d, .tuple #[.bool false]) :: E) H (wpList P ops Q rest))
    (c1 : ∀ k v cnt', left k = true → f k = some v → cnt' < cnt → At Γ ((d, .tuple #[.bool true, .int .i64 k, v]) :: E) (H.set i (iterR b r f (fun q => left q && q != k) (some (k, v)) cnt')) (wpList P ops Q rest)) :
    At Γ E H (wpList P ops Q ({ dst := some d, op := .next x false, type := ty, pos, after, guard := none } :: rest)) :=
  At.run rfl rfl hn fun a w ha hw => by
    obtain ⟨es, clock, since, seen, co, hne, hb, he, hr, hold, hs1, hs2, hl1, hl2, hcnt, hcur⟩ : (iterR b r f left cur cnt).holds w := hw.all _ (List.mem_of_getElem? hi)
    rcases run_next_at (P := P) w ty r b since co seen es clock hr hb hold hs1 with ⟨h0, hrun⟩ | ⟨e, hel, w1, hal, hrun⟩
    · refine ⟨.tuple #[.bool false], w, H, by simp [execOp, ha.eval hx, Sem.run_bind, hrun], hw, c0 fun k => ?_⟩
      cases hk : left k with
      | false => rfl
      | true =>
        have := hl2 k hk
        cases hf : f k with
        | none => exact absurd hf this
        | some v =>
          obtain ⟨q, hq, h1, h2⟩ := (he.get k v).1 hf
          have h3 := hl1 q hq k h1
          rw [all_seen es seen h0 q hq, hk] at h3
          cases h3
    · obtain ⟨hem, hes⟩ := mem_left hel
      obtain ⟨k, hk⟩ := he.int e hem
      have hfk := (he.get k e.val).2 ⟨e, hem, hk, rfl⟩
      have hw1 : Rep Γ.w0 Γ.S H w1 := by rcases hal with rfl | rfl; exact hw; exact hw.drew
      have hr1 : w1.heap[r]? = some (.mapIter (some b) since seen co) := by rcases hal with rfl | rfl <;> exact hr
      have hb1 : w1.heap[b]? = some (.map es clock) := by rcases hal with rfl | rfl <;> exact hb
      refine ⟨_, _, _, by simp [execOp, ha.eval hx, Sem.run_bind, hrun]; exact ⟨rfl, rfl⟩, ?_, by
        have := c1 k e.val (leftOf es (seen.push e.born)).size (by rw [hl1 e hem k hk, hes]; rfl) hfk (by rw [← hcnt]; exact left_shrinks es seen e hel)
        rw [hk]; exact this⟩
      refine hw1.change (r' := iterR b r f _ (some (k, e.val)) _) hi ((Mod.setBlock w1 r _).mono fun q hq => .inr hq) ⟨es, clock, since, seen.push e.born, clock, hne, (setBlock_ne (Ne.symm hne)).trans hb1, he, setBlock_at hr1, hold, hs2, hs2, fun q hq k' hk' => ?_, fun k' hk' => hl2 k' (by simp at hk'; exact hk'.1), rfl, fun k' v' h' => ?_⟩ (fun q hq => .inl hq)
      · show (left k' && k' != k) = _
        rw [contains_push, hl1 q hq k' hk']
        by_cases hqe : q.born = e.born
        · have : q = e := by
            have hn := he.stamps
            exact born_inj hn hq hem hqe
          subst this
          rw [hk] at hk'
          have : k = k' := by simpa [kv] using hk'
          subst this
          simp
        · have h1 : (q.born == e.born) = false := by simpa using hqe
          have h2 : (k' != k) = true := by
            simp only [bne_iff_ne, ne_eq]
            intro e1; subst e1
            exact hqe (congrArg MapEntry.born (key_inj he.keys hq hem (hk'.trans hk.symm)))
          rw [h1, h2]; cases seen.contains q.born <;> rfl
      · simp only [Option.some.injEq, Prod.mk.injEq] at h'
        obtain ⟨rfl, rfl⟩ := h'
        exact ⟨rfl, seen, e, rfl, hem, hk, rfl⟩
theorem Val.entry {k : Int} (hx : ev E x = some (.pointer (some ⟨r, 0, none⟩))) (hi : H[i]? = some (iterR b r f left (some (k, v)) cnt)) :
    Val P Γ E H ⟨dst, .entry x, ty, pos, after, g⟩ (.tuple #[.int .i64 k, v]) := fun a w ha hw => by
  obtain ⟨es, clock, since, seen, co, hne, hb, he, hr, hold, hs1, hs2, hl1, hl2, hcnt, hcur⟩ : (iterR b r f left (some (k, v)) cnt).holds w := hw.all _ (List.mem_of_getElem? hi)
  obtain ⟨rfl, s, e, rfl, hem, hk, rfl⟩ := hcur k v rfl
  have := run_entry_at (P := P) w r b since s es _ e hr hb hem he.stamps
  simp [execOp, ha.eval hx, Sem.run_bind, this, hk]
theorem At.delIt {k : Int} (hu : P.underlying t = some (.map kt et)) (hk : P.underlying kt = some (.int .i64)) (hx : ev E x = some (.map (some b))) (hy : ev E y = some (.int .i64 k)) (hi : H[i]? = some (iterR b r f left cur cnt))
    (c : ∀ cnt', cnt' ≤ cnt → At Γ E (H.set i (iterR b r (fun q => if q = k then none else f q) (fun q => left q && q != k) none cnt')) (wpList P ops Q rest)) :
    At Γ E H (wpList P ops Q ({ dst := .none, op := .call { callee := .builtin .delete, args := #[x, y], argTypes := #[t, kt] }, type := ty, pos, after, guard := none } :: rest)) := fun a w ha hw => by
  obtain ⟨es, clock, since, seen, co, hne, hb, he, hr, hold, hs1, hs2, hl1, hl2, hcnt, hcur⟩ : (iterR b r f left cur cnt).holds w := hw.all _ (List.mem_of_getElem? hi)
  have hck := fun e => MapKept.run_checkKey (P := P) (w := w) (k := kv k) hk (by simp [MapKept.IsKey]) e 9999
  have fin : ∀ (es' : Array MapEntry) (w' : World), (execOp a.eval { dst := .none, op := .call { callee := .builtin .delete, args := #[x, y], argTypes := #[t, kt] }, type := ty, pos, after, guard := none }).run P w = .ok (.value (.tuple #[])) w' → w' = setBlock w b (.map es' clock) →
      Ent (fun q => if q = k then none else f q) es' clock → (∀ q, q ∈ es'.toList → q ∈ es.toList) → (∀ q, q ∈ es'.toList → q.key ≠ kv k) → (leftOf es' seen).size ≤ cnt → wpList P ops Q ({ dst := .none, op := .call { callee := .builtin .delete, args := #[x, y], argTypes := #[t, kt] }, type := ty, pos, after, guard := none } :: rest) a w := fun es' w' hrun hw' he' hsub hnk hle => by
    refine wpList_plain rfl fun K hK => ?_
    unfold Oper.wp
    rw [hrun, Oper.upon_value]
    refine hK _ _ (c _ hle _ _ ha ?_)
    subst hw'
    refine hw.change (r' := iterR b r _ _ none _) hi ((Mod.setBlock w b _).mono fun q hq => .inl hq) ⟨es', clock, since, seen, co, hne, setBlock_at hb, he', (setBlock_ne hne).trans hr, fun q hq => hold q (hsub q hq), hs1, hs2, fun q hq k' hk' => ?_, fun k' hk' => ?_, rfl, (fun k v h => by cases h)⟩ (fun q hq => .inl hq)
    · show (left k' && k' != k) = _
      rw [hl1 q (hsub q hq) k' hk']
      have : (k' != k) = true := by
        simp only [bne_iff_ne, ne_eq]
        intro e1; subst e1
        exact hnk q hq hk'
      rw [this]; simp
    · have hk' : (left k' && k' != k) = true := hk'
      simp only [Bool.and_eq_true, bne_iff_ne, ne_eq] at hk'
      show (if k' = k then none else f k') ≠ none
      rw [if_neg hk'.2]
      exact hl2 k' hk'.1
  rcases he.find k with ⟨h1, h2⟩ | ⟨j, e, h1, h2, h3, h4⟩
  · refine fin es _ (by simp [execOp, resolve, invoke, builtin, ha.eval hx, ha.eval hy, Builtin.delete_, Sem.run_bind, run_underlying hu, MapKept.run_getObj_map hb, hck, MapKept.run_findKey hk h1, run_setMap _ hb]) rfl ?_ (fun q h => h) (fun q hq e => ?_) (Nat.le_of_eq hcnt)
    · have : (fun q => if q = k then none else f q) = f := funext fun q => by split; · rename_i e; rw [e, h2]
                                                                              · rfl
      rw [this]; exact he
    · have := (he.get k q.val).2 ⟨q, hq, e, rfl⟩
      rw [h2] at this; cases this
  · have hjs : j < es.size := by have := (List.getElem?_eq_some_iff.1 h2).1; simpa using this
    have hE : (es.eraseIdxIfInBounds j).toList = es.toList.eraseIdx j := by
      unfold Array.eraseIdxIfInBounds
      rw [dif_pos hjs]; simp
    have he' := he.erase h2 h3 hE
    have hsub : ∀ q, q ∈ (es.eraseIdxIfInBounds j).toList → q ∈ es.toList := fun q hq => (List.eraseIdx_sublist ..).subset (hE ▸ hq)
    refine fin (es.eraseIdxIfInBounds j) _ (by simp [execOp, resolve, invoke, builtin, ha.eval hx, ha.eval hy, Builtin.delete_, Sem.run_bind, run_underlying hu, MapKept.run_getObj_map hb, hck, MapKept.run_findKey hk h1, run_setMap _ hb]) rfl he' hsub (fun q hq e1 => ?_) ?_
    · have := (he'.get k q.val).2 ⟨q, hq, e1, rfl⟩
      simp at this
    · rw [← hcnt]
      unfold leftOf
      have e1 : ∀ (a : Array MapEntry) (p : MapEntry → Bool), (a.filter p).size = (a.toList.filter p).length := fun a p => by rw [← Array.toList_filter, Array.length_toList]
      rw [e1, e1, hE]
      exact ((List.eraseIdx_sublist _ _).filter _).length_le
theorem At.iterEnd (i : Nat) (hi : H[i]? = some (iterR b r f left cur cnt)) (k : At Γ E (H.set i (mapR b f)) φ) : At Γ E H φ := fun a w ha hw => by
  obtain ⟨es, clock, since, seen, co, hne, hb, he, hr, hh⟩ : (iterR b r f left cur cnt).holds w := hw.all _ (List.mem_of_getElem? hi)
  exact k a w ha (hw.change (r' := mapR b f) hi (Mod.refl _ _) ⟨es, clock, hb, he⟩ (fun q hq => .inl (.inl hq)))
end
end Go.Wk
namespace Go.Wk
open Go Go.ChangeMaps
structure Wd where
  old : BitVec 64
  news : List (BitVec 64)
  mark : Nat
structure Ds where
  ws : List Wd
  steps : Nat
  armed : Bool
  left : Nat
structure Gh where
  vo : Value
  mb : Nat
  g : Nat → Nat × Value
abbrev tDv : TypeId := 111
abbrev tDb : TypeId := 115
abbrev tW : TypeId := 43
def olds (ws : List Wd) : List (BitVec 64) := ws.map (·.old)
def dR (p : Nat × Value) (w : Wd) : Res := star [blk p.1 tDb [p.2, .int .i64 (w.mark : Int)], winR p.2 tW (w.news.map b64)]
def dI (ws : List Wd) (g : Nat → Nat × Value) (k : Nat) : Option Res := match ws[k]? with | some w => (match w.news with | [] => none | _ => some (dR (g k) w)) | none => none
def mkN (ws : List Wd) (g : Nat → Nat × Value) (k : Nat) : Option Value := match ws[k]? with | some w => (match w.news with | [] => none | _ => some (.pointer (some ⟨(g k).1, 0, none⟩))) | none => none
def mk (ws : List Wd) (g : Nat → Nat × Value) (x : Int) : Option Value := if 0 ≤ x ∧ x % 8 = 0 then mkN ws g (x / 8).toNat else none
structure Dgood (σ : Ds) : Prop where
  pos : 0 < σ.ws.length
  len : σ.ws.length ≤ 65536
  lines : σ.ws.length % 8 = 0
  steps : σ.steps ≤ 1099511627776
  left : σ.left ≤ 9223372036854775807
  word : ∀ w ∈ σ.ws, w.mark ≤ w.news.length ∧ w.news.length ≤ σ.steps
def devL (p : Nat) (γ : Gh) (σ : Ds) : List Res :=
  [blk p tDv [γ.vo, .map (some γ.mb), .int .i64 (σ.steps : Int), .bool σ.armed, .int .i64 (σ.left : Int)], wrow tW γ.vo (olds σ.ws), mapR γ.mb (mk σ.ws γ.g), fam (dI σ.ws γ.g), factR (Dgood σ)]
def Dev (p : Nat) (γ : Gh) (σ : Ds) : Res := star (devL p γ σ)
theorem Dev.good {p γ σ} {w : World} (h : (Dev p γ σ).holds w) : Dgood σ := h.2 (factR (Dgood σ)) (by simp [devL])
theorem olds_length (ws : List Wd) : (olds ws).length = ws.length := by simp [olds]
theorem olds_at {ws : List Wd} {k : Nat} {wd : Wd} (h : ws[k]? = some wd) : (olds ws)[k]? = some wd.old := by simp [olds, h]
theorem olds_set (ws : List Wd) (k : Nat) (wd : Wd) : olds (ws.set k wd) = (olds ws).set k wd.old := by simp [olds, List.map_set]
theorem olds_same {ws : List Wd} {k : Nat} {wd wd' : Wd} (h : ws[k]? = some wd) (he : wd'.old = wd.old) : olds (ws.set k wd') = olds ws := by
  rw [olds_set, he]
  apply List.ext_getElem?
  intro j
  rw [List.getElem?_set]
  split
  · rename_i e; subst e
    have := olds_at h
    rw [this]; simp [(List.getElem?_eq_some_iff.1 this).1]
  · rfl
theorem dI_some {ws : List Wd} {g : Nat → Nat × Value} {k : Nat} {wd : Wd} (hk : ws[k]? = some wd) (hn : wd.news ≠ []) : dI ws g k = some (dR (g k) wd) := by
  unfold dI; rw [hk]; cases h : wd.news with
  | nil => exact absurd h hn
  | cons a l => simp only [h]
theorem dI_none {ws : List Wd} {g : Nat → Nat × Value} {k : Nat} {wd : Wd} (hk : ws[k]? = some wd) (hn : wd.news = []) : dI ws g k = none := by
  unfold dI; rw [hk]; simp only [hn]
theorem dI_ne {ws : List Wd} {g g' : Nat → Nat × Value} {k j : Nat} {wd : Wd} (hj : j ≠ k) (hg : g' j = g j) : dI (ws.set k wd) g' j = dI ws g j := by
  unfold dI; rw [List.getElem?_set_ne (Ne.symm hj), hg]
theorem mkN_some {ws : List Wd} {g : Nat → Nat × Value} {k : Nat} {wd : Wd} (hk : ws[k]? = some wd) (hn : wd.news ≠ []) : mkN ws g k = some (.pointer (some ⟨(g k).1, 0, none⟩)) := by
  unfold mkN; rw [hk]; cases h : wd.news with
  | nil => exact absurd h hn
  | cons a l => simp only [h]
theorem mkN_none {ws : List Wd} {g : Nat → Nat × Value} {k : Nat} {wd : Wd} (hk : ws[k]? = some wd) (hn : wd.news = []) : mkN ws g k = none := by
  unfold mkN; rw [hk]; simp only [hn]
theorem mkN_ne {ws : List Wd} {g g' : Nat → Nat × Value} {k j : Nat} {wd : Wd} (hj : j ≠ k) (hg : g' j = g j) : mkN (ws.set k wd) g' j = mkN ws g j := by
  unfold mkN; rw [List.getElem?_set_ne (Ne.symm hj), hg]
theorem mk_at (ws : List Wd) (g : Nat → Nat × Value) (k : Nat) : mk ws g (8 * (k : Int)) = mkN ws g k := by
  unfold mk; rw [if_pos (by omega)]; congr 1; omega
theorem mk_inv {ws : List Wd} {g : Nat → Nat × Value} {x : Int} {v : Value} (h : mk ws g x = some v) : ∃ (k : Nat) (wd : Wd), x = 8 * (k : Int) ∧ ws[k]? = some wd ∧ wd.news ≠ [] ∧ v = .pointer (some ⟨(g k).1, 0, none⟩) := by
  unfold mk at h
  split at h
  · rename_i hx
    refine ⟨(x / 8).toNat, ?_⟩
    unfold mkN at h
    split at h
    · rename_i wd hwd
      split at h
      · cases h
      · rename_i hn
        exact ⟨wd, by omega, hwd, fun e => hn e, (Option.some.inj h).symm⟩
    · cases h
  · cases h
theorem mk_set {ws : List Wd} {g g' : Nat → Nat × Value} {k : Nat} {wd : Wd} (hg : ∀ j, j ≠ k → g' j = g j) : mk (ws.set k wd) g' = fun q => if q = 8 * (k : Int) then mkN (ws.set k wd) g' k else mk ws g q := by
  funext q
  by_cases hq : q = 8 * (k : Int)
  · subst hq; rw [if_pos rfl, mk_at]
  · rw [if_neg hq]
    unfold mk
    split
    · rename_i hx
      have hne : (q / 8).toNat ≠ k := fun e => hq (by omega)
      exact mkN_ne hne (hg _ hne)
    · rfl
theorem set_self? {ws : List Wd} {k : Nat} {wd : Wd} (h : k < ws.length) : (ws.set k wd)[k]? = some wd := by simp [h]
theorem mk_push {ws : List Wd} {g : Nat → Nat × Value} {k b : Nat} {v' : Value} {wd : Wd} (h : k < ws.length) (hn : wd.news ≠ []) : mk (ws.set k wd) (upd g k (b, v')) = fun q => if q = 8 * (k : Int) then some (.pointer (some ⟨b, 0, none⟩)) else mk ws g q := by
  rw [mk_set (g := g) (fun j hj => upd_ne g _ hj), mkN_some (set_self? h) hn, upd_at]
theorem mk_keep {ws : List Wd} {g : Nat → Nat × Value} {k : Nat} {v' : Value} {wd wd' : Wd} (h : ws[k]? = some wd) (hn : wd.news ≠ []) (hn' : wd'.news ≠ []) : mk (ws.set k wd') (upd g k ((g k).1, v')) = mk ws g := by
  rw [mk_push (List.getElem?_eq_some_iff.1 h).1 hn']
  funext q
  split
  · rename_i e; subst e; rw [mk_at, mkN_some h hn]
  · rfl
theorem mk_drop {ws : List Wd} {g : Nat → Nat × Value} {k : Nat} {wd : Wd} (h : k < ws.length) (hn : wd.news = []) : mk (ws.set k wd) g = fun q => if q = 8 * (k : Int) then none else mk ws g q := by
  rw [mk_set (g := g) (fun j hj => rfl), mkN_none (set_self? h) hn]
theorem fam_unf {ws : List Wd} {g : Nat → Nat × Value} {k b : Nat} {v' : Value} {wd : Wd} (h : k < ws.length) (hn : wd.news ≠ []) : upd (upd (dI ws g) k none) k (some (dR (b, v') wd)) = dI (ws.set k wd) (upd g k (b, v')) := by
  funext j
  by_cases hj : j = k
  · subst hj; rw [upd_at, dI_some (set_self? h) hn, upd_at]
  · rw [upd_ne _ _ hj, upd_ne _ _ hj, dI_ne hj (upd_ne g _ hj)]
theorem fam_drop {ws : List Wd} {g : Nat → Nat × Value} {k : Nat} {wd : Wd} (h : k < ws.length) (hn : wd.news = []) : upd (dI ws g) k none = dI (ws.set k wd) g := by
  funext j
  by_cases hj : j = k
  · subst hj; rw [upd_at, dI_none (set_self? h) hn]
  · rw [upd_ne _ _ hj, dI_ne hj rfl]
theorem upd_same {α : Type} (g : Nat → α) (k : Nat) : upd g k (g k) = g := by
  funext j; unfold upd; split
  · rename_i e; rw [e]
  · rfl
section
variable {P : Program} {Γ : Ctx} {E : Env} {H L F : List Res} {ops : Array Oper} {Q : Exit → Act → World → Prop} {rest : List Oper} {w0 w w' : World} {S : Nat → Prop} {φ : Act → World → Prop} {ψ : Act → Prop}
  {d : Nat} {dst : Option Tmp} {gd : Option (Nat × Bool)} {ty : TypeId} {pos : String} {after : Array Edge} {x y z : Operand} {v u : Value} {ws : List Wd} {g : Nat → Nat × Value} {k i : Nat} {wd : Wd} {p : Nat} {γ : Gh} {σ σ' : Ds}
theorem fam_dbt (h : (fam (dI ws g)).holds w) (hk : ws[k]? = some wd) (hn : wd.news ≠ []) : Holds w (g k).1 tDb [(g k).2, .int .i64 (wd.mark : Int)] ∧ Win w (g k).2 tW (wd.news.map b64) := by
  have h1 := h.1 k _ (dI_some hk hn)
  exact ⟨h1.2 (blk (g k).1 tDb _) (by simp), h1.2 (winR (g k).2 tW _) (by simp)⟩
theorem Val.loadDbt {t q : Nat} (hA : ∀ w, (isAgg t).run P w = .ok false w) (hx : ev E x = some (.pointer (some ⟨(g k).1, q, none⟩))) (hi : H[i]? = some (fam (dI ws g))) (hk : ws[k]? = some wd) (hn : wd.news ≠ []) (hv : ([(g k).2, .int .i64 (wd.mark : Int)] : List Value)[q]? = some u) :
    Val P Γ E H ⟨dst, .load t x, ty, pos, after, gd⟩ u := fun a w ha hw => by
  have h := (fam_dbt (hw.all _ (List.mem_of_getElem? hi)) hk hn).1
  have := run_loadAt_cell (P := P) hA ((h.cell q).trans hv)
  simp [execOp, ha.eval hx, Sem.run_bind, this]
theorem Val.lenDbt {t el : Nat} (hi : H[i]? = some (fam (dI ws g))) (hk : ws[k]? = some wd) (hn : wd.news ≠ []) (hu : P.underlying t = some (.slice el)) (hx : ev E x = some (g k).2) :
    Val P Γ E H ⟨dst, .call { callee := .builtin .len, args := #[x], argTypes := #[t] }, ty, pos, after, gd⟩ (.int .i64 (wd.news.length : Int)) := fun a w ha hw => by
  have h := (fam_dbt (hw.all _ (List.mem_of_getElem? hi)) hk hn).2
  rcases h with ⟨h1, h2⟩ | ⟨b, o, c, cur, h1, _⟩
  · have := congrArg List.length h2; simp at this; exact absurd this hn
  · rw [h1, List.length_map] at hx
    exact Val.len (bt := #[]) hu hx a w ha hw
theorem At.dbtSome (i : Nat) (hi : H[i]? = some (fam (dI ws g))) (hk : ws[k]? = some wd) (hn : wd.news ≠ []) (c : ∀ b o c, (g k).2 = .slice (some ⟨b, o, none⟩) wd.news.length c → At Γ E H φ) : At Γ E H φ := fun a w ha hw => by
  have h := (fam_dbt (hw.all _ (List.mem_of_getElem? hi)) hk hn).2
  rcases h with ⟨h1, h2⟩ | ⟨b, o, c', cur, h1, _⟩
  · have := congrArg List.length h2; simp at this; exact absurd this hn
  · rw [List.length_map] at h1; exact c b o c' h1 a w ha hw
theorem Val.loadNews {t b o n c j q : Nat} {z' : BitVec 64} (hA : ∀ w, (isAgg t).run P w = .ok false w) (hx : ev E x = some (.pointer (some ⟨b, q, none⟩))) (hi : H[i]? = some (fam (dI ws g))) (hk : ws[k]? = some wd) (hn : wd.news ≠ []) (hg : (g k).2 = .slice (some ⟨b, o, none⟩) n c) (hq : o + j = q) (hv : wd.news[j]? = some z') :
    Val P Γ E H ⟨dst, .load t x, ty, pos, after, gd⟩ (b64 z') := fun a w ha hw => by
  subst hq
  have h := (fam_dbt (hw.all _ (List.mem_of_getElem? hi)) hk hn).2
  rw [hg] at h
  have := run_loadAt_cell (P := P) hA (h.at (u := b64 z') (by rw [List.getElem?_map, hv]; rfl))
  simp [execOp, ha.eval hx, Sem.run_bind, this]
theorem At.focusD (i : Nat) (hi : H[i]? = some (fam (dI ws g))) (hk : ws[k]? = some wd) (hn : wd.news ≠ []) (c : At Γ E (blk (g k).1 tDb [(g k).2, .int .i64 (wd.mark : Int)] :: winR (g k).2 tW (wd.news.map b64) :: fam (upd (dI ws g) k none) :: H.eraseIdx i) φ) : At Γ E H φ := fun a w ha hw =>
  c a w ha ((hw.perm (erase_perm H i _ hi)).focus (dI_some hk hn)).openS
theorem At.unfocusD {b : Nat} {v' : Value} (hk : k < ws.length) (hn : wd.news ≠ []) (c : At Γ E (fam (dI (ws.set k wd) (upd g k (b, v'))) :: H) φ) : At Γ E (blk b tDb [v', .int .i64 (wd.mark : Int)] :: winR v' tW (wd.news.map b64) :: fam (upd (dI ws g) k none) :: H) φ := fun a w ha hw => by
  have h1 : Rep Γ.w0 Γ.S (dR (b, v') wd :: fam (upd (dI ws g) k none) :: H) w := Rep.shutS (L := [blk b tDb [v', .int .i64 (wd.mark : Int)], winR v' tW (wd.news.map b64)]) hw
  have h2 := h1.unfocus (upd_at ..)
  rw [fam_unf hk hn] at h2
  exact c a w ha h2
theorem At.bornD {b : Nat} {v' : Value} {wo : Wd} (hk : ws[k]? = some wo) (ho : wo.news = []) (hn : wd.news ≠ []) (c : At Γ E (fam (dI (ws.set k wd) (upd g k (b, v'))) :: H) φ) : At Γ E (blk b tDb [v', .int .i64 (wd.mark : Int)] :: winR v' tW (wd.news.map b64) :: fam (dI ws g) :: H) φ := by
  have e : upd (dI ws g) k none = dI ws g := by
    funext j; unfold upd; split
    · rename_i e; rw [e, dI_none hk ho]
    · rfl
  have := At.unfocusD (Γ := Γ) (E := E) (H := H) (φ := φ) (g := g) (b := b) (v' := v') (wd := wd) (List.getElem?_eq_some_iff.1 hk).1 hn c
  rwa [e] at this
theorem At.dropD {r1 r2 : Res} (hk : k < ws.length) (hn : wd.news = []) (c : At Γ E (fam (dI (ws.set k wd) g) :: H) φ) : At Γ E (r1 :: r2 :: fam (upd (dI ws g) k none) :: H) φ := fun a w ha hw => by
  rw [fam_drop hk hn] at hw
  exact c a w ha (hw.drop ((List.Sublist.refl _).cons _ |>.cons _))
theorem At.rot3 {a b c f : Res} (h : At Γ E (a :: b :: c :: f :: F) φ) : At Γ E (f :: a :: b :: c :: F) φ := fun q w ha hw => h q w ha (hw.perm (List.perm_middle (l₁ := [a, b, c])).symm)
theorem set_same {α : Type} {H : List α} {i : Nat} {r : α} (hi : H[i]? = some r) : H.set i r = H := by
  apply List.ext_getElem?
  intro q
  rw [List.getElem?_set]
  split
  · rename_i e; subst e
    split
    · rw [hi]
    · rename_i hn; rw [List.getElem?_eq_none (by omega)]
  · rfl
theorem Rep.kept {r : Res} (hi : H[i]? = some r) (h : Rep w0 S H w) (h' : Rep w (feet [r]) [r] w') : Rep w0 S H w' := by
  have := Rep.frame1 (X := []) hi h h'
  rwa [set_same hi] at this
theorem At.callK (i : Nat) {r : Res} {f : FuncId} {l : List Operand} {vs : List Value} {at_ : Array TypeId} (hi : H[i]? = some r) (h : ∀ w, Rep Γ.w0 Γ.S H w → r.holds w → Upd P f vs r v r w) (hc : ∀ args w, (callFunc f args).run P w = .ok (.enter f args) w) (hv : evs E l = some vs) (hn : Nat.blt d Γ.n = true)
    (c : At Γ ((d, v) :: E) H (wpList P ops Q rest)) :
    At Γ E H (wpList P ops Q ({ dst := some d, op := .call { callee := .value (.func f), args := l.toArray, argTypes := at_ }, type := ty, pos, after, guard := none } :: rest)) :=
  At.call hc hv hn fun w hw => (h w hw (hw.all _ (List.mem_of_getElem? hi))).mono fun e w' ⟨he, hr⟩ => ⟨v, _, he, hw.kept hi hr, c⟩
theorem QAt.callK (i : Nat) {r : Res} {f : FuncId} {l : List Operand} {vs : List Value} {at_ : Array TypeId} (hi : H[i]? = some r) (h : ∀ w, Rep Γ.w0 Γ.S H w → r.holds w → Upd P f vs r v r w) (hc : ∀ args w, (callFunc f args).run P w = .ok (.enter f args) w) (hv : evs E l = some vs) (hn : Nat.blt d Γ.n = true)
    (c : QAt P Γ ops ((d, v) :: E) H rest ψ) : QAt P Γ ops E H ({ dst := some d, op := .call { callee := .value (.func f), args := l.toArray, argTypes := at_ }, type := ty, pos, after, guard := none } :: rest) ψ := fun a ha => by
  unfold wpQuiet
  rw [if_pos (by simp [Region.wanted])]
  refine ⟨v, fun w hw => ?_, c _ (ha.put d v hn)⟩
  unfold Oper.quietAt
  rw [run_call ha hc hv w]
  exact ⟨rfl, (h w hw (hw.all _ (List.mem_of_getElem? hi))).mono fun e w' ⟨he, hm⟩ => ⟨he, hw.kept hi hm⟩⟩
theorem Rep.keptS (h : Rep w0 S (L ++ F) w) (h' : Rep w (feet [star L]) [star L] w') : Rep w0 S (L ++ F) w' := (Rep.kept (H := star L :: F) (i := 0) rfl h.shutS h').openS
theorem At.callKS (L : List Res) {F : List Res} {f : FuncId} {l : List Operand} {vs : List Value} {at_ : Array TypeId} (hL : H = L ++ F) (h : ∀ w, Rep Γ.w0 Γ.S H w → (star L).holds w → Upd P f vs (star L) v (star L) w) (hc : ∀ args w, (callFunc f args).run P w = .ok (.enter f args) w) (hv : evs E l = some vs) (hn : Nat.blt d Γ.n = true)
    (c : At Γ ((d, v) :: E) H (wpList P ops Q rest)) :
    At Γ E H (wpList P ops Q ({ dst := some d, op := .call { callee := .value (.func f), args := l.toArray, argTypes := at_ }, type := ty, pos, after, guard := none } :: rest)) := by
  subst hL
  exact At.call hc hv hn fun w hw => (h w hw (hw.shutS.all _ (List.mem_cons_self ..))).mono fun e w' ⟨he, hr⟩ => ⟨v, _, he, hw.keptS hr, c⟩
theorem QAt.callKS (L : List Res) {F : List Res} {f : FuncId} {l : List Operand} {vs : List Value} {at_ : Array TypeId} (hL : H = L ++ F) (h : ∀ w, Rep Γ.w0 Γ.S H w → (star L).holds w → Upd P f vs (star L) v (star L) w) (hc : ∀ args w, (callFunc f args).run P w = .ok (.enter f args) w) (hv : evs E l = some vs) (hn : Nat.blt d Γ.n = true)
    (c : QAt P Γ ops ((d, v) :: E) H rest ψ) : QAt P Γ ops E H ({ dst := some d, op := .call { callee := .value (.func f), args := l.toArray, argTypes := at_ }, type := ty, pos, after, guard := none } :: rest) ψ := by
  subst hL
  intro a ha
  unfold wpQuiet
  rw [if_pos (by simp [Region.wanted])]
  refine ⟨v, fun w hw => ?_, c _ (ha.put d v hn)⟩
  unfold Oper.quietAt
  rw [run_call ha hc hv w]
  exact ⟨rfl, (h w hw (hw.shutS.all _ (List.mem_cons_self ..))).mono fun e w' ⟨he, hm⟩ => ⟨he, hw.keptS hm⟩⟩
def DevU (P : Program) (f : FuncId) (vs : List Value) (p : Nat) (γ : Gh) (σ : Ds) (v : Value) (σ' : Ds) (w : World) : Prop := Calls P f vs.toArray w fun e w' => ∃ γ', e = .returned v ∧ Rep w (feet [Dev p γ σ]) [Dev p γ' σ'] w'
theorem At.callD (i : Nat) {f : FuncId} {l : List Operand} {vs : List Value} {at_ : Array TypeId} (hi : H[i]? = some (Dev p γ σ)) (h : ∀ w, Rep Γ.w0 Γ.S H w → (Dev p γ σ).holds w → DevU P f vs p γ σ v σ' w) (hc : ∀ args w, (callFunc f args).run P w = .ok (.enter f args) w) (hv : evs E l = some vs) (hn : Nat.blt d Γ.n = true)
    (c : ∀ γ', At Γ ((d, v) :: E) (H.set i (Dev p γ' σ')) (wpList P ops Q rest)) :
    At Γ E H (wpList P ops Q ({ dst := some d, op := .call { callee := .value (.func f), args := l.toArray, argTypes := at_ }, type := ty, pos, after, guard := none } :: rest)) :=
  At.call hc hv hn fun w hw => (h w hw (hw.all _ (List.mem_of_getElem? hi))).mono fun e w' ⟨γ', he, hr⟩ => ⟨v, _, he, Rep.frame1 (X := []) hi hw hr, c γ'⟩
def NewDev (P : Program) (f : FuncId) (vs : List Value) (σ : Ds) (w : World) : Prop := Calls P f vs.toArray w fun e w' => ∃ p γ, e = .returned (.tuple #[.pointer (some ⟨p, 0, none⟩), .int .i64 0]) ∧ Rep w (feet []) [Dev p γ σ] w'
theorem At.callND {f : FuncId} {l : List Operand} {vs : List Value} {at_ : Array TypeId} (h : ∀ w, Rep Γ.w0 Γ.S H w → NewDev P f vs σ w) (hc : ∀ args w, (callFunc f args).run P w = .ok (.enter f args) w) (hv : evs E l = some vs) (hn : Nat.blt d Γ.n = true)
    (c : ∀ p γ, At Γ ((d, .tuple #[.pointer (some ⟨p, 0, none⟩), .int .i64 0]) :: E) (Dev p γ σ :: H) (wpList P ops Q rest)) :
    At Γ E H (wpList P ops Q ({ dst := some d, op := .call { callee := .value (.func f), args := l.toArray, argTypes := at_ }, type := ty, pos, after, guard := none } :: rest)) :=
  At.call hc hv hn fun w hw => (h w hw).mono fun e w' ⟨p, γ, he, hr⟩ => ⟨_, _, he, by
    have := Rep.frame (H0 := []) (F := H) (by simpa using hw) hr
    simpa using this, c p γ⟩
def RowK (P : Program) (f : FuncId) (vs : List Value) (r : Res) (e sz n : Nat) (xs : List Value) (w : World) : Prop := Calls P f vs.toArray w fun q w' => ∃ v', q = .returned v' ∧ Rep w (feet [r]) [rowR v' e sz n xs, r] w'
theorem At.callRK (i : Nat) {r : Res} {e sz n : Nat} {xs : List Value} {f : FuncId} {l : List Operand} {vs : List Value} {at_ : Array TypeId} (hi : H[i]? = some r) (h : ∀ w, Rep Γ.w0 Γ.S H w → r.holds w → RowK P f vs r e sz n xs w) (hc : ∀ args w, (callFunc f args).run P w = .ok (.enter f args) w) (hv : evs E l = some vs) (hn : Nat.blt d Γ.n = true)
    (c : ∀ v', At Γ ((d, v') :: E) (rowR v' e sz n xs :: H) (wpList P ops Q rest)) :
    At Γ E H (wpList P ops Q ({ dst := some d, op := .call { callee := .value (.func f), args := l.toArray, argTypes := at_ }, type := ty, pos, after, guard := none } :: rest)) :=
  At.call hc hv hn fun w hw => (h w hw (hw.all _ (List.mem_of_getElem? hi))).mono fun q w' ⟨v', he, hr⟩ => ⟨v', _, he, by
    have h1 : Rep Γ.w0 Γ.S ([r] ++ H.eraseIdx i) w := hw.perm (erase_perm H i r hi)
    exact (h1.frame (H0' := [rowR v' e sz n xs, r]) hr).perm ((erase_perm H i r hi).symm.cons _), c v'⟩
theorem At.callRKS (L : List Res) {F : List Res} {e sz n : Nat} {xs : List Value} {f : FuncId} {l : List Operand} {vs : List Value} {at_ : Array TypeId} (hL : H = L ++ F) (h : ∀ w, Rep Γ.w0 Γ.S H w → (star L).holds w → RowK P f vs (star L) e sz n xs w) (hc : ∀ args w, (callFunc f args).run P w = .ok (.enter f args) w) (hv : evs E l = some vs) (hn : Nat.blt d Γ.n = true)
    (c : ∀ v', At Γ ((d, v') :: E) (rowR v' e sz n xs :: H) (wpList P ops Q rest)) :
    At Γ E H (wpList P ops Q ({ dst := some d, op := .call { callee := .value (.func f), args := l.toArray, argTypes := at_ }, type := ty, pos, after, guard := none } :: rest)) := by
  subst hL
  exact At.call hc hv hn fun w hw => (h w hw (hw.shutS.all _ (List.mem_cons_self ..))).mono fun q w' ⟨v', he, hr⟩ => ⟨v', _, he, by
    have h1 : Rep Γ.w0 Γ.S ([star L] ++ F) w := hw.shutS
    have h2 : Rep Γ.w0 Γ.S (rowR v' e sz n xs :: star L :: F) w' := h1.frame (H0' := [rowR v' e sz n xs, star L]) hr
    have h3 : Rep Γ.w0 Γ.S (star L :: rowR v' e sz n xs :: F) w' := h2.perm (List.Perm.swap ..)
    exact h3.openS.perm List.perm_middle, c v'⟩
theorem retRK {p : Nat} {γ : Gh} {σ : Ds} {r : Res} {F : List Res} (hw : Rep w S (r :: devL p γ σ ++ F) w') : Rep w S [r, Dev p γ σ] w' := by
  have h1 : Rep w S (devL p γ σ ++ (r :: F)) w' := hw.perm (List.perm_middle (l₁ := devL p γ σ)).symm
  exact ((h1.shutS).perm (List.Perm.swap ..)).drop ((List.nil_sublist F).cons_cons _ |>.cons_cons _)
theorem enterV {f : FuncId} {fn : Func} {c : Code} {vs : List Value} {w : World} {R : Ending → World → Prop} {n : Nat} (hd : (Dev p γ σ).holds w) (hf : P.funcs[f]? = some fn) (hb : fn.body = some c) (hn : fn.ntmps = n) (hl : Nat.ble vs.length n = true)
    (k : At ⟨w, feet [Dev p γ σ], n, []⟩ (envOf 0 vs) (devL p γ σ) (c.wp P (bodyPost P fn R))) : Calls P f vs.toArray w R := enter (feet [Dev p γ σ]) (devL p γ σ) hf hb hn hl (Rep.of_star (r := Dev p γ σ) hd) k
theorem enterVc {f : FuncId} {fn : Func} {c : Code} {vs : List Value} {w : World} {R : Ending → World → Prop} {n : Nat} (hd : (Dev p γ σ).holds w) (hf : P.funcs[f]? = some fn) (hb : fn.body = some c) (hn : fn.ntmps = n) (hl : Nat.ble vs.length n = true)
    (k : At ⟨w, feet [Dev p γ σ], n, []⟩ (envOf 0 vs) [Dev p γ σ] (c.wp P (bodyPost P fn R))) : Calls P f vs.toArray w R := enter (feet [Dev p γ σ]) [Dev p γ σ] hf hb hn hl (Rep.one hd) k
theorem retK {F : List Res} (hw : Rep w S (devL p γ σ ++ F) w') : Rep w S [Dev p γ σ] w' := (hw.shutS).drop ((List.nil_sublist F).cons_cons _)
theorem toDev {F : List Res} {a b c e : Res} (hg : Dgood σ) (hw : Rep w S (a :: b :: c :: e :: F) w') (ha : a = blk p tDv [γ.vo, .map (some γ.mb), .int .i64 (σ.steps : Int), .bool σ.armed, .int .i64 (σ.left : Int)]) (hb : b = wrow tW γ.vo (olds σ.ws)) (hc : c = mapR γ.mb (mk σ.ws γ.g)) (he : e = fam (dI σ.ws γ.g)) : Rep w S (Dev p γ σ :: F) w' := by
  subst ha hb hc he
  have h1 : Rep w S (factR (Dgood σ) :: _) w' := Rep.fact hg hw
  have h2 : Rep w S (devL p γ σ ++ F) w' := h1.perm (List.perm_middle (l₁ := [_, _, _, _]) (a := factR (Dgood σ)) (l₂ := F)).symm
  exact h2.shutS
end
end Go.Wk
namespace Go.Wk
open Go
def lineL (b : List UInt8) : List UInt8 := closeL (b ++ zs (64 - b.length))
theorem lineL_length {b : List UInt8} (h : b.length ≤ 60) : (lineL b).length = 64 := closeL_length (by simp [zs]; omega)
theorem zs_append (m n : Nat) : zs m ++ zs n = zs (m + n) := by simp [zs]
theorem zs_succ (n : Nat) : zs n ++ [0] = zs (n + 1) := zs_append n 1
theorem lineL_take {b : List UInt8} (h : b.length ≤ 60) : (b ++ zs (64 - b.length)).take 60 = b ++ zs (60 - b.length) := by
  rw [show 64 - b.length = (60 - b.length) + 4 by omega, ← zs_append, ← List.append_assoc, List.take_append_of_le_length (by simp [zs]; omega), List.take_of_length_le (by simp [zs]; omega)]
theorem lineL_row {b : List UInt8} (h : b.length ≤ 60) : lineL b = (b ++ zs (60 - b.length)) ++ le 4 (sumOn 0 (b ++ zs (60 - b.length))).toNat := by
  unfold lineL closeL; rw [lineL_take h]
def superB (p i c : Nat) : List UInt8 := [70, 85, 82, 82, 79, 87, 48, 49] ++ le 4 p ++ le 4 i ++ le 4 c
theorem superB_length (p i c : Nat) : (superB p i c).length = 20 := by simp [superB, le_length]
def zline : Value := .agg ((zs 64).map bv).toArray
def lineV (b : List UInt8) : Value := .agg ((lineL b).map bv).toArray
theorem toU64 {n : Int} (h0 : 0 ≤ n) (h1 : n < 18446744073709551616) : IntKind.u64.wrap n = ((n.toNat : Nat) : Int) := by rw [wrap_u64 h0 h1]; omega
end Go.Wk
namespace Go.Wk
open Go
def num (l : List UInt8) (at_ n : Nat) : Nat := fromLe ((l.drop at_).take n)
theorem fromLe_append : ∀ (a b : List UInt8), fromLe (a ++ b) = fromLe a + 256 ^ a.length * fromLe b
  | [], b => by simp [fromLe]
  | c :: a, b => by
    simp only [List.cons_append, fromLe, fromLe_append a b, List.length_cons, Nat.pow_succ]
    rw [Nat.mul_add, Nat.add_assoc, ← Nat.mul_assoc, Nat.mul_comm 256 (256 ^ a.length)]
theorem num_zero (l : List UInt8) (at_ : Nat) : num l at_ 0 = 0 := by simp [num, fromLe]
theorem num_succ {l : List UInt8} {at_ k : Nat} {c : UInt8} (h : l[at_ + k]? = some c) : num l at_ (k + 1) = num l at_ k + 256 ^ k * c.toNat := by
  have hk : at_ + k < l.length := (List.getElem?_eq_some_iff.1 h).1
  have h1 : (l.drop at_)[k]? = some c := by rw [List.getElem?_drop]; exact h
  unfold num
  rw [List.take_add_one, h1]
  simp only [Option.toList_some]
  rw [fromLe_append]
  simp only [List.length_take, List.length_drop, fromLe]
  rw [show min k (l.length - at_) = k by omega]
  simp
theorem num_lt {l : List UInt8} (at_ n : Nat) : num l at_ n < 256 ^ n := by
  have h := fromLe_lt ((l.drop at_).take n)
  exact Nat.lt_of_lt_of_le h (Nat.pow_le_pow_right (by decide) (by simp; omega))
theorem num_or {l : List UInt8} {at_ k : Nat} {c : UInt8} (h : l[at_ + k]? = some c) (hk : k < 8) :
    ib .or .u64 ((num l at_ k : Nat) : Int) (IntKind.u64.wrap ((c.toNat : Int) * 2 ^ min (8 * (k : Int)).toNat IntKind.u64.bits)) = ((num l at_ (k + 1) : Nat) : Int) := by
  have e8 : (8 * (k : Int)).toNat = 8 * k := by omega
  have h1 : num l at_ k < 256 ^ k := num_lt at_ k
  have hp : 256 ^ k = 2 ^ (8 * k) := by rw [Nat.pow_mul]
  have hle : 256 ^ (k + 1) ≤ 18446744073709551616 := by
    rw [show (18446744073709551616 : Nat) = 256 ^ 8 from rfl]; exact Nat.pow_le_pow_right (by decide) (by omega)
  have h2 : num l at_ (k + 1) < 256 ^ (k + 1) := num_lt at_ (k + 1)
  have h3 := num_succ h
  have hx : (BitVec.ofNat 64 (num l at_ k)).toNat = num l at_ k := by rw [BitVec.toNat_ofNat]; omega
  have hy : (BitVec.ofNat 64 (256 ^ k * c.toNat)).toNat = 256 ^ k * c.toNat := by rw [BitVec.toNat_ofNat]; omega
  have e : IntKind.u64.wrap ((c.toNat : Int) * 2 ^ min (8 * (k : Int)).toNat IntKind.u64.bits) = ((256 ^ k * c.toNat : Nat) : Int) := by
    rw [e8, show min (8 * k) IntKind.u64.bits = 8 * k from Nat.min_eq_left (by show 8 * k ≤ 64; omega)]
    rw [show (c.toNat : Int) * 2 ^ (8 * k) = ((256 ^ k * c.toNat : Nat) : Int) from by rw [hp]; push_cast; rw [Int.mul_comm]]
    exact wrap_u64 (by omega) (by omega)
  rw [e, ← hx, ← hy, or64, BitVec.toNat_or, hx, hy, h3]
  congr 1
  rw [hp, Nat.or_comm, ← Nat.two_pow_add_eq_or_of_lt (by rw [← hp]; exact h1), Nat.add_comm]
theorem cut_bytes {w : World} {L o c at_ n : Nat} {l : List UInt8} (hb : Bytes w (some ⟨L, o, none⟩) l) (hc : l.length ≤ c) (hn : at_ + n ≤ l.length) :
    Bytes w (some ⟨L, if c = at_ then o else o + at_ * 1, none⟩) ((l.drop at_).take n) := fun k u hk => by
  have hk' : k < ((l.drop at_).take n).length := (List.getElem?_eq_some_iff.1 hk).1
  have hkn : k < n := by simp at hk'; omega
  have h1 : l[at_ + k]? = some u := by
    rw [List.getElem?_take, if_pos hkn, List.getElem?_drop] at hk; exact hk
  obtain ⟨b, o', hbo, hcell⟩ := hb _ _ h1
  simp only [Option.some.injEq, Addr.mk.injEq] at hbo
  obtain ⟨rfl, rfl, _⟩ := hbo
  rw [if_neg (by omega)]
  exact ⟨L, o + at_ * 1, rfl, by rw [← hcell]; congr 2; omega⟩
abbrev eyeC (L o m c at_ : Nat) : List Value := [.slice (some ⟨L, o, none⟩) m c, .int .i64 (at_ : Nat)]
def allZero (l : List UInt8) : Prop := ∀ c ∈ l, c = 0
instance (l : List UInt8) : Decidable (allZero l) := by unfold allZero; infer_instance
theorem allZero_at {l : List UInt8} {k : Nat} {c : UInt8} (h : l[k]? = some c) (hz : allZero l) : c = 0 := hz c (List.mem_of_getElem? h)
theorem zero_byte {c : UInt8} (h : (c.toNat : Int) = 0) : c = 0 := by
  apply UInt8.toNat_inj.1; simpa using h
end Go.Wk
namespace Go.Wk
open Go
theorem num_cons {l : List UInt8} {a m : Nat} {c : UInt8} (h : l[a]? = some c) : num l a (m + 1) = num l (a + 1) m * 256 + c.toNat := by
  have hk : a < l.length := (List.getElem?_eq_some_iff.1 h).1
  have e := List.getElem?_eq_getElem hk
  rw [h] at e
  obtain rfl := Option.some.inj e
  unfold num
  rw [List.drop_eq_getElem_cons hk, List.take_succ_cons, fromLe]
  omega
theorem le_num {l : List UInt8} {a n : Nat} (h : a + n ≤ l.length) : le n (num l a n) = (l.drop a).take n := by
  have := le_fromLe ((l.drop a).take n)
  rw [show ((l.drop a).take n).length = n by simp; omega] at this
  exact this
theorem allZero_eq {l : List UInt8} (h : allZero l) : l = zs l.length := List.eq_replicate_iff.2 ⟨rfl, h⟩
theorem zs_allZero (n : Nat) : allZero (zs n) := fun c hc => (List.mem_replicate.1 hc).2
theorem take_add_drop (l : List UInt8) (a b : Nat) : l.take (a + b) = l.take a ++ (l.drop a).take b := List.take_add
theorem wholeB_iff {l : List UInt8} : wholeB l = true ↔ closeL l = l := by unfold wholeB; exact decide_eq_true_iff
theorem whole_line {l b : List UInt8} (hb : b.length ≤ 60) (hl : l.length = 64) : lineL b = l ↔ wholeB l = true ∧ l.take 60 = b ++ zs (60 - b.length) := by
  rw [wholeB_iff, lineL_row hb]
  have e60 : (b ++ zs (60 - b.length)).length = 60 := by simp [zs]; omega
  constructor
  · intro h
    have h60 : l.take 60 = b ++ zs (60 - b.length) := by rw [← h, List.take_append_of_le_length (by omega), List.take_of_length_le (by omega)]
    refine ⟨?_, h60⟩
    unfold closeL
    rw [h60, h]
  · rintro ⟨h1, h2⟩
    unfold closeL at h1
    rw [h2] at h1
    exact h1
def mark1 : List UInt8 := [70, 85, 82, 82, 79, 87, 48, 49]
theorem super_take {l : List UInt8} (hl : l.length = 64) : l.take 60 = superB (num l 8 4) (num l 12 4) (num l 16 4) ++ zs 40 ↔ (l.drop 0).take 8 = mark1 ∧ allZero ((l.drop 20).take 40) := by
  have e : l.take 60 = l.take 8 ++ (l.drop 8).take 4 ++ (l.drop 12).take 4 ++ (l.drop 16).take 4 ++ (l.drop 20).take 40 := by
    rw [show 60 = 20 + 40 from rfl, take_add_drop, show 20 = 16 + 4 from rfl, take_add_drop, show 16 = 12 + 4 from rfl, take_add_drop, show 12 = 8 + 4 from rfl, take_add_drop]
  rw [e, superB, le_num (by omega), le_num (by omega), le_num (by omega)]
  have h8 : (l.take 8).length = 8 := by simp; omega
  have h40 : ((l.drop 20).take 40).length = 40 := by simp; omega
  constructor
  · intro h
    simp only [List.append_assoc] at h
    have h1 := List.append_inj h (by rw [h8]; rfl)
    refine ⟨by rw [List.drop_zero, h1.1]; rfl, ?_⟩
    have h2 := List.append_cancel_left (List.append_cancel_left (List.append_cancel_left h1.2))
    rw [h2]; exact zs_allZero 40
  · rintro ⟨h1, h2⟩
    rw [List.drop_zero] at h1
    have h3 := allZero_eq h2
    rw [h40] at h3
    rw [h1, h3]; rfl
def SupLine (l : List UInt8) : Prop := lineL (superB (num l 8 4) (num l 12 4) (num l 16 4)) = l
instance (l : List UInt8) : Decidable (SupLine l) := by unfold SupLine; infer_instance
theorem supLine_iff {l : List UInt8} (hl : l.length = 64) : SupLine l ↔ wholeB l = true ∧ (l.drop 0).take 8 = mark1 ∧ allZero ((l.drop 20).take 40) := by
  unfold SupLine
  rw [whole_line (by rw [superB_length]; decide) hl, superB_length, show 60 - 20 = 40 from rfl, super_take hl]
end Go.Wk
namespace Go.Wk
open Go
theorem seal_nat {a : BitVec 64} {v : BitVec 32} (h : v ≠ 0) : (sealW a v).toNat = (checkW a v).toNat * 4294967296 + v.toNat := by
  rw [seal_some h, BitVec.toNat_or, BitVec.toNat_shiftLeft, BitVec.toNat_setWidth, BitVec.toNat_setWidth]
  have h1 := (checkW a v).isLt
  have h2 := v.isLt
  rw [Nat.mod_eq_of_lt (a := (checkW a v).toNat) (by omega), Nat.mod_eq_of_lt (a := v.toNat) (by omega), Nat.shiftLeft_eq, Nat.mod_eq_of_lt (by omega), Nat.mul_comm]
  rw [show 2 ^ 32 * (checkW a v).toNat ||| v.toNat = 2 ^ 32 * (checkW a v).toNat + v.toNat from (Nat.two_pow_add_eq_or_of_lt (by omega) _).symm]
theorem i64_32 (v : BitVec 32) : IntKind.i64.wrap (v.toNat : Int) = (v.toNat : Int) := wrap_i64 (by omega) (by have := v.isLt; omega)
end Go.Wk
namespace Go.Wk
open Go
def one (b : Bool) : BitVec 32 := if b then 1 else 0
end Go.Wk
namespace Go.Wk
open Go
end Go.Wk
namespace Go.Wk
open Go
theorem seal_low (a : BitVec 64) (v : BitVec 32) : (sealW a v).setWidth 32 = v := by
  by_cases h : v = 0
  · rw [seal_zero h, h]; rfl
  · apply BitVec.eq_of_toNat_eq
    rw [BitVec.toNat_setWidth, seal_nat h]
    have := v.isLt
    omega
end Go.Wk
namespace Go.Wk
open Go
end Go.Wk
namespace Go.Wk
open Go
def wdA (l : List UInt8) (a : Nat) : BitVec 64 := BitVec.ofNat 64 (num l a 8)
theorem num_lt64 (l : List UInt8) (a : Nat) : num l a 8 < 18446744073709551616 := num_lt a 8
theorem wdA_nat (l : List UInt8) (a : Nat) : (wdA l a).toNat = num l a 8 := by
  unfold wdA; rw [BitVec.toNat_ofNat, Nat.mod_eq_of_lt (num_lt64 l a)]
theorem wdA_val (l : List UInt8) (a : Nat) : Value.int .u64 ((num l a 8 : Nat) : Int) = b64 (wdA l a) := by unfold b64; rw [wdA_nat]
theorem or_low {V c : Nat} (hV : V < 72057594037927936) (hc : c < 256) : ib .or .u64 (IntKind.u64.wrap ((V : Int) * 2 ^ min (8 : Int).toNat IntKind.u64.bits)) (c : Int) = ((V * 256 + c : Nat) : Int) := by
  have e1 : IntKind.u64.wrap ((V : Int) * 2 ^ min (8 : Int).toNat IntKind.u64.bits) = ((V * 256 : Nat) : Int) := by
    rw [show ((V : Int) * 2 ^ min (8 : Int).toNat IntKind.u64.bits) = ((V * 256 : Nat) : Int) by rw [show min (8 : Int).toNat IntKind.u64.bits = 8 from rfl]; omega]
    exact wrap_u64 (by omega) (by omega)
  rw [e1]
  show IntKind.u64.wrap ((BitVec.ofInt 64 ((V * 256 : Nat) : Int) ||| BitVec.ofInt 64 (c : Int)).toNat : Int) = _
  have t : ∀ n : Nat, n < 18446744073709551616 → (BitVec.ofInt 64 (n : Int)).toNat = n := fun n hn => by
    rw [BitVec.toNat_ofInt, show ((n : Int) % ((2 ^ 64 : Nat) : Int)) = n from Int.emod_eq_of_lt (by omega) (by omega)]; omega
  rw [BitVec.toNat_or, t _ (by omega), t _ (by omega)]
  have : V * 256 ||| c = V * 256 + c := by
    have := Nat.two_pow_add_eq_or_of_lt (i := 8) (show c < 2 ^ 8 by omega) V
    rw [show 2 ^ 8 * V = V * 256 from by omega] at this
    exact this.symm
  rw [this]
  exact wrap_u64 (by omega) (by omega)
theorem shr_byte (x : BitVec 64) {i : Nat} (h : i < 8) : (x.toNat : Int).fdiv (2 ^ min (8 * (i : Int)).toNat IntKind.u64.bits) = ((x.toNat / 256 ^ i : Nat) : Int) := by
  have e : min (8 * (i : Int)).toNat IntKind.u64.bits = 8 * i := by rw [show IntKind.u64.bits = 64 from rfl]; omega
  rw [e, show (256 : Nat) ^ i = 2 ^ (8 * i) from by rw [Nat.pow_mul]]
  rw [Int.fdiv_eq_ediv_of_nonneg _ (Int.pow_nonneg (by decide))]
  norm_cast
abbrev le8 (x : BitVec 64) : List UInt8 := le 8 x.toNat
theorem num_le8 (x : BitVec 64) : BitVec.ofNat 64 (fromLe (le8 x)) = x := by
  apply BitVec.eq_of_toNat_eq
  have h := le_fromLe (le8 x)
  rw [le_length] at h
  rw [BitVec.toNat_ofNat]
  have key : ∀ (n a b : Nat), a < 256 ^ n → b < 256 ^ n → le n a = le n b → a = b := by
    intro n
    induction n with
    | zero => intro a b ha hb _; simp at ha hb; omega
    | succ n ih =>
      intro a b ha hb he
      simp only [le, List.cons.injEq] at he
      have h1 : a % 256 = b % 256 := by
        have := congrArg UInt8.toNat he.1
        simpa using this
      have h2 := ih (a / 256) (b / 256) (by rw [Nat.pow_succ] at ha; omega) (by rw [Nat.pow_succ] at hb; omega) he.2
      omega
  have hlt : fromLe (le8 x) < 256 ^ 8 := by
    have := num_lt (l := le8 x) 0 8
    unfold num at this
    rwa [List.drop_zero, List.take_of_length_le (by rw [le_length]; exact Nat.le_refl _)] at this
  rw [Nat.mod_eq_of_lt (by simpa using hlt)]
  exact key 8 _ _ hlt (by have := x.isLt; omega) h
end Go.Wk
namespace Go.Proofs.YtfchinibjhcejaaGreatDoor
open Go Go.Wk
def isSizeB (n : Int) : Bool := decide (512 ≤ n ∧ n ≤ 524288 ∧ n % 512 = 0)
def hasB (σ : Ds) (a n : Int) : Bool := decide (0 ≤ a ∧ 0 ≤ n ∧ a ≤ 8 * (σ.ws.length : Int) ∧ n ≤ 8 * (σ.ws.length : Int) - a)
def placeE (σ : Ds) (a : Int) : Int := if 0 ≤ a ∧ a < 8 * (σ.ws.length : Int) then (if a % 8 = 0 then 0 else 12) else 11
def deadB (σ : Ds) : Bool := σ.armed && decide (σ.left = 0)
def stepD (σ : Ds) : Ds := { σ with steps := σ.steps + 1, left := if σ.armed then σ.left - 1 else σ.left }
def nowW (w : Wd) : BitVec 64 := w.news.getLast?.getD w.old
def zWd : Wd := ⟨0, [], 0⟩
def wz (n : Nat) : List Wd := List.replicate n zWd
def zeroD (n : Nat) : Ds := ⟨wz n, 0, false, 0⟩
theorem dgood_step {σ : Ds} (h : Dgood σ) (hs : σ.steps + 1 ≤ 1099511627776) : Dgood (stepD σ) :=
  ⟨h.pos, h.len, h.lines, hs, by have := h.left; unfold stepD; simp only; split <;> omega, fun w hw => ⟨(h.word w hw).1, by have := (h.word w hw).2; show _ ≤ σ.steps + 1; omega⟩⟩
theorem isSize_p (n : Int) (w : World) :
    PureC Tryz.prog 113 [.int .i64 n] (.bool (isSizeB n)) w := by
 refine enter0 Tryz.func113 rfl Tryz.ntmps113 rfl ?_
 simp only [envOf]
 refine tR (tA rfl rfl (tE (tR (tM rfl rfl (At.weaken [(0, _), (2, _), (3, _)] (Sub.cons rfl (Sub.cons rfl (Sub.cons rfl Sub.nil))) ?_)))))
 refine At.boolMeet 10 13 (isSizeB n) ?_ ?_
 ·simp only [List.take_succ_cons, List.take_zero]
  refine tV (Val.bin rfl rfl rfl) rfl (tM rfl rfl ?_)
  refine At.split (t := 5) rfl (fun h1 => ?_) (fun h1 => ?_)
  ·try simp only [hasB, isSizeB, sB] at h1
   refine At.yes rfl rfl (tM rfl rfl (At.yes rfl rfl (tV (Val.bin rfl rfl rfl) rfl (tV (Val.pickT rfl rfl) rfl (tM rfl rfl ?_)))))
   refine At.split (t := 9) rfl (fun h2 => ?_) (fun h2 => ?_)
   ·try simp only [hasB, isSizeB, sB] at h2
    refine At.yes rfl rfl (tM rfl rfl (At.yes rfl rfl ?_))
    first | refine tV (Val.remI rfl rfl (by omega) (by decide)) rfl ?_ | refine tV (Val.rem rfl rfl (by decide)) rfl ?_
    refine At.yes rfl rfl (tV (Val.bin rfl rfl rfl) rfl (tV (Val.pickT rfl rfl) rfl (At.nil ?_)))
    exact At.boolEnd rfl (by unfold isSizeB; exact (by first | exact (decide_eq_true (by omega)).symm | exact (decide_eq_false (by omega)).symm | (apply Bool.eq_iff_iff.2; simp only [decide_eq_true_eq, beq_iff_eq, bne_iff_ne, ne_eq, Bool.not_eq_true', decide_eq_false_iff_not]; omega) | rfl | (simp_all; done) | (simp_all; omega))) (by repeat (first | exact Sub.nil | refine Sub.cons rfl ?_))
   ·try simp only [hasB, isSizeB, sB] at h2
    refine At.no rfl rfl rfl rfl (At.no rfl rfl rfl rfl (At.no rfl rfl rfl rfl (tV (Val.pickF rfl rfl) rfl (At.nil ?_))))
    exact At.boolEnd rfl (by unfold isSizeB; exact (by first | exact (decide_eq_true (by omega)).symm | exact (decide_eq_false (by omega)).symm | (apply Bool.eq_iff_iff.2; simp only [decide_eq_true_eq, beq_iff_eq, bne_iff_ne, ne_eq, Bool.not_eq_true', decide_eq_false_iff_not]; omega) | rfl | (simp_all; done) | (simp_all; omega))) (by repeat (first | exact Sub.nil | refine Sub.cons rfl ?_))
  ·try simp only [hasB, isSizeB, sB] at h1
   refine At.no rfl rfl rfl rfl (At.no rfl rfl rfl rfl (tV (Val.pickF rfl rfl) rfl (tM rfl rfl (At.no rfl rfl rfl rfl (At.no rfl rfl rfl rfl (At.no rfl rfl rfl rfl (tV (Val.pickF rfl rfl) rfl (At.nil ?_))))))))
   exact At.boolEnd rfl (by unfold isSizeB; exact (by first | exact (decide_eq_true (by omega)).symm | exact (decide_eq_false (by omega)).symm | (apply Bool.eq_iff_iff.2; simp only [decide_eq_true_eq, beq_iff_eq, bne_iff_ne, ne_eq, Bool.not_eq_true', decide_eq_false_iff_not]; omega) | rfl | (simp_all; done) | (simp_all; omega))) (by repeat (first | exact Sub.nil | refine Sub.cons rfl ?_))
 ·simp only [List.drop_succ_cons, List.drop_zero]
  refine tA rfl rfl (tE (At.retC (At.ret1 (.inl rfl) rfl rfl rfl (fun w hw => ?_))))
  exact ⟨rfl, hw.mod⟩
theorem size_k (p : Nat) (γ : Gh) (σ : Ds) (w : World) (hd : (Dev p γ σ).holds w) :
    Upd Tryz.prog 81 [.pointer (some ⟨p, 0, none⟩)] (Dev p γ σ) (.int .i64 (8 * (σ.ws.length : Int))) (Dev p γ σ) w := by
 refine enterV hd Tryz.func81 rfl Tryz.ntmps81 rfl ?_
 unfold devL
 have hgd := Dev.good hd
 have hln := hgd.len
 have hol := olds_length σ.ws
 simp only [envOf]
 refine tR (tA rfl rfl (tE (tR (tM rfl rfl (tV (Val.nilCheck rfl) rfl (tV (Val.field 0 rfl fo_111_0 rfl) rfl (tV (Val.load (i := 0) Tryz.isAgg98 rfl rfl rfl) rfl (tV (Val.lenRow (i := 1) Tryz.underlying98 rfl rfl) rfl ?_))))))))
 first | refine tV (Val.mulI rfl rfl (by omega) (by omega)) rfl ?_ | refine tV (Val.bin rfl rfl rfl) rfl ?_
 refine tA rfl rfl (tE (At.retC (At.ret1 (.inl rfl) rfl rfl rfl (fun w hw => ?_))))
 exact ⟨congrArg (fun z => Ending.returned (Value.int .i64 z)) (by omega), retK (F := []) hw⟩
theorem has_k (p : Nat) (γ : Gh) (σ : Ds) (a n : Int) (w : World) (hd : (Dev p γ σ).holds w) :
    Upd Tryz.prog 115 [.pointer (some ⟨p, 0, none⟩), .int .i64 a, .int .i64 n] (Dev p γ σ) (.bool (hasB σ a n)) (Dev p γ σ) w := by
 refine enterVc hd Tryz.func115 rfl Tryz.ntmps115 rfl ?_
 have hgd := Dev.good hd
 have hln := hgd.len
 simp only [envOf]
 refine tR (tA rfl rfl (tE (tR (tM rfl rfl (At.weaken [(0, _), (1, _), (2, _), (6, _), (7, _)] (Sub.cons rfl (Sub.cons rfl (Sub.cons rfl (Sub.cons rfl (Sub.cons rfl Sub.nil))))) ?_)))))
 refine At.boolMeet 19 26 (hasB σ a n) ?_ ?_
 ·simp only [List.take_succ_cons, List.take_zero]
  refine tV (Val.bin rfl rfl rfl) rfl (tM rfl rfl ?_)
  refine At.split (t := 9) rfl (fun h1 => ?_) (fun h1 => ?_)
  ·try simp only [hasB, isSizeB, sB] at h1
   refine At.yes rfl rfl (tM rfl rfl (At.yes rfl rfl (tV (Val.bin rfl rfl rfl) rfl (tV (Val.pickT rfl rfl) rfl (tM rfl rfl ?_)))))
   refine At.split (t := 13) rfl (fun h2 => ?_) (fun h2 => ?_)
   ·try simp only [hasB, isSizeB, sB] at h2
    refine At.yes rfl rfl (tM rfl rfl (At.yes rfl rfl (tM rfl rfl (At.yes rfl rfl (At.callK 0 rfl (fun w hw hr => size_k _ _ _ w hr) Tryz.call81 rfl rfl (At.yes rfl rfl (tV (Val.bin rfl rfl rfl) rfl (tV (Val.pickT rfl rfl) rfl (tM rfl rfl ?_)))))))))
    refine At.split (t := 19) rfl (fun h3 => ?_) (fun h3 => ?_)
    ·try simp only [hasB, isSizeB, sB] at h3
     refine At.yes rfl rfl (tM rfl rfl (At.yes rfl rfl (tM rfl rfl (At.yes rfl rfl (At.callK 0 rfl (fun w hw hr => size_k _ _ _ w hr) Tryz.call81 rfl rfl (At.yes rfl rfl (tM rfl rfl (At.yes rfl rfl ?_))))))))
     first | refine tV (Val.subI rfl rfl (by omega) (by omega)) rfl ?_ | refine tV (Val.bin rfl rfl rfl) rfl ?_
     refine At.yes rfl rfl (tV (Val.bin rfl rfl rfl) rfl (tV (Val.pickT rfl rfl) rfl (At.nil ?_)))
     exact At.boolEnd rfl (by unfold hasB; exact (by first | exact (decide_eq_true (by omega)).symm | exact (decide_eq_false (by omega)).symm | (apply Bool.eq_iff_iff.2; simp only [decide_eq_true_eq, beq_iff_eq, bne_iff_ne, ne_eq, Bool.not_eq_true', decide_eq_false_iff_not]; omega) | rfl | (simp_all; done) | (simp_all; omega))) (by repeat (first | exact Sub.nil | refine Sub.cons rfl ?_))
    ·try simp only [hasB, isSizeB, sB] at h3
     refine At.no rfl rfl rfl rfl (At.no rfl rfl rfl rfl (At.no rfl rfl rfl rfl (At.no rfl rfl rfl rfl (At.no rfl rfl rfl rfl (At.no rfl rfl rfl rfl (tV (Val.pickF rfl rfl) rfl (At.nil ?_)))))))
     exact At.boolEnd rfl (by unfold hasB; exact (by first | exact (decide_eq_true (by omega)).symm | exact (decide_eq_false (by omega)).symm | (apply Bool.eq_iff_iff.2; simp only [decide_eq_true_eq, beq_iff_eq, bne_iff_ne, ne_eq, Bool.not_eq_true', decide_eq_false_iff_not]; omega) | rfl | (simp_all; done) | (simp_all; omega))) (by repeat (first | exact Sub.nil | refine Sub.cons rfl ?_))
   ·try simp only [hasB, isSizeB, sB] at h2
    refine At.no rfl rfl rfl rfl (At.no rfl rfl rfl rfl (At.no rfl rfl rfl rfl (At.no rfl rfl rfl rfl (tV (Val.pickF rfl rfl) rfl (tM rfl rfl (At.no rfl rfl rfl rfl (At.no rfl rfl rfl rfl (At.no rfl rfl rfl rfl (At.no rfl rfl rfl rfl (At.no rfl rfl rfl rfl (At.no rfl rfl rfl rfl (tV (Val.pickF rfl rfl) rfl (At.nil ?_)))))))))))))
    exact At.boolEnd rfl (by unfold hasB; exact (by first | exact (decide_eq_true (by omega)).symm | exact (decide_eq_false (by omega)).symm | (apply Bool.eq_iff_iff.2; simp only [decide_eq_true_eq, beq_iff_eq, bne_iff_ne, ne_eq, Bool.not_eq_true', decide_eq_false_iff_not]; omega) | rfl | (simp_all; done) | (simp_all; omega))) (by repeat (first | exact Sub.nil | refine Sub.cons rfl ?_))
  ·try simp only [hasB, isSizeB, sB] at h1
   refine At.no rfl rfl rfl rfl (At.no rfl rfl rfl rfl (tV (Val.pickF rfl rfl) rfl (tM rfl rfl (At.no rfl rfl rfl rfl (At.no rfl rfl rfl rfl (At.no rfl rfl rfl rfl (At.no rfl rfl rfl rfl (tV (Val.pickF rfl rfl) rfl (tM rfl rfl (At.no rfl rfl rfl rfl (At.no rfl rfl rfl rfl (At.no rfl rfl rfl rfl (At.no rfl rfl rfl rfl (At.no rfl rfl rfl rfl (At.no rfl rfl rfl rfl (tV (Val.pickF rfl rfl) rfl (At.nil ?_)))))))))))))))))
   exact At.boolEnd rfl (by unfold hasB; exact (by first | exact (decide_eq_true (by omega)).symm | exact (decide_eq_false (by omega)).symm | (apply Bool.eq_iff_iff.2; simp only [decide_eq_true_eq, beq_iff_eq, bne_iff_ne, ne_eq, Bool.not_eq_true', decide_eq_false_iff_not]; omega) | rfl | (simp_all; done) | (simp_all; omega))) (by repeat (first | exact Sub.nil | refine Sub.cons rfl ?_))
 ·simp only [List.drop_succ_cons, List.drop_zero]
  refine tA rfl rfl (tE (At.retC (At.ret1 (.inl rfl) rfl rfl rfl (fun w hw => ?_))))
  exact ⟨rfl, hw⟩
theorem dead_k (p : Nat) (γ : Gh) (σ : Ds) (w : World) (hd : (Dev p γ σ).holds w) :
    Upd Tryz.prog 80 [.pointer (some ⟨p, 0, none⟩)] (Dev p γ σ) (.bool (deadB σ)) (Dev p γ σ) w := by
 refine enterV hd Tryz.func80 rfl Tryz.ntmps80 rfl ?_
 unfold devL
 have hgd := Dev.good hd
 simp only [envOf]
 refine tR (tA rfl rfl (tE (tR (tM rfl rfl (tV (Val.nilCheck rfl) rfl (tV (Val.field 3 rfl fo_111_3 rfl) rfl (tV (Val.load (i := 0) Tryz.isAgg4 rfl rfl rfl) rfl (At.weaken [(0, _), (2, _), (6, _)] (Sub.cons rfl (Sub.cons rfl (Sub.cons rfl Sub.nil))) ?_))))))))
 refine At.boolMeet 7 13 (deadB σ) ?_ ?_
 ·simp only [List.take_succ_cons, List.take_zero]
  refine tM rfl rfl ?_
  refine At.split (t := 7) rfl (fun h1 => ?_) (fun h1 => ?_)
  ·try simp only [hasB, isSizeB, sB] at h1
   refine At.yes rfl rfl (tM rfl rfl (At.yes rfl rfl (tV (Val.nilCheck rfl) rfl (At.yes rfl rfl (tV (Val.field 4 rfl fo_111_4 rfl) rfl (At.yes rfl rfl (tV (Val.load (i := 0) Tryz.isAgg3 rfl rfl rfl) rfl (At.yes rfl rfl (tV (Val.bin rfl rfl rfl) rfl (tV (Val.pickT rfl rfl) rfl (At.nil ?_)))))))))))
   exact At.boolEnd rfl (by unfold deadB; first | (rw [show σ.armed = true from by assumption]; simp only [Bool.true_and]; apply Bool.eq_iff_iff.2; simp only [beq_iff_eq, decide_eq_true_eq]; omega) | (rw [show σ.armed = false from by assumption]; rfl)) (by repeat (first | exact Sub.nil | refine Sub.cons rfl ?_))
  ·try simp only [hasB, isSizeB, sB] at h1
   refine At.no rfl rfl rfl rfl (At.no rfl rfl rfl rfl (At.no rfl rfl rfl rfl (At.no rfl rfl rfl rfl (At.no rfl rfl rfl rfl (tV (Val.pickF rfl rfl) rfl (At.nil ?_))))))
   exact At.boolEnd rfl (by unfold deadB; first | (rw [show σ.armed = true from by assumption]; simp only [Bool.true_and]; apply Bool.eq_iff_iff.2; simp only [beq_iff_eq, decide_eq_true_eq]; omega) | (rw [show σ.armed = false from by assumption]; rfl)) (by repeat (first | exact Sub.nil | refine Sub.cons rfl ?_))
 ·simp only [List.drop_succ_cons, List.drop_zero]
  refine tA rfl rfl (tE (At.retC (At.ret1 (.inl rfl) rfl rfl rfl (fun w hw => ?_))))
  exact ⟨rfl, retK (F := []) hw⟩
theorem place_k (p : Nat) (γ : Gh) (σ : Ds) (a : Int) (w : World) (hd : (Dev p γ σ).holds w) :
    Upd Tryz.prog 117 [.pointer (some ⟨p, 0, none⟩), .int .i64 a] (Dev p γ σ) (.int .i64 (placeE σ a)) (Dev p γ σ) w := by
 refine enterVc hd Tryz.func117 rfl Tryz.ntmps117 rfl ?_
 have hgd := Dev.good hd
 have hln := hgd.len
 simp only [envOf]
 refine tR (tA rfl rfl (tE (At.seq (tR (tM rfl rfl (tM rfl rfl (At.callK 0 rfl (fun w hw hr => has_k _ _ _ _ _ w hr) Tryz.call115 rfl rfl (tV (Val.not rfl) rfl (tE ?_)))))))))
 refine At.cond rfl (fun h1 => ?_) (fun h1 => ?_)
 ·try simp only [hasB, isSizeB, sB] at h1
  refine tR (tA rfl rfl (tE (At.retC (At.thenR (At.ret1 (.inl rfl) rfl rfl rfl (fun w hw => ?_))))))
  exact ⟨congrArg (fun z => Ending.returned (Value.int .i64 z)) (by unfold placeE; (repeat' split) <;> omega), hw⟩
 ·try simp only [hasB, isSizeB, sB] at h1
  refine At.skipC (At.thenN (At.seq (tR (tM rfl rfl ?_))))
  first | refine tV (Val.remI rfl rfl (by omega) (by decide)) rfl ?_ | refine tV (Val.rem rfl rfl (by decide)) rfl ?_
  refine tV (Val.bin rfl rfl rfl) rfl (tE ?_)
  refine At.cond rfl (fun h2 => ?_) (fun h2 => ?_)
  ·try simp only [hasB, isSizeB, sB] at h2
   refine tR (tA rfl rfl (tE (At.retC (At.thenR (At.ret1 (.inl rfl) rfl rfl rfl (fun w hw => ?_))))))
   exact ⟨congrArg (fun z => Ending.returned (Value.int .i64 z)) (by unfold placeE; (repeat' split) <;> omega), hw⟩
  ·try simp only [hasB, isSizeB, sB] at h2
   refine At.skipC (At.thenN (tR (tA rfl rfl (tE (At.retC (At.ret1 (.inl rfl) rfl rfl rfl (fun w hw => ?_)))))))
   exact ⟨congrArg (fun z => Ending.returned (Value.int .i64 z)) (by unfold placeE; (repeat' split) <;> omega), hw⟩
theorem step_d (p : Nat) (γ : Gh) (σ : Ds) (w : World) (hs : σ.steps + 1 ≤ 1099511627776) (hno : deadB σ = false) (hd : (Dev p γ σ).holds w) :
    DevU Tryz.prog 118 [.pointer (some ⟨p, 0, none⟩)] p γ σ (.int .i64 0) (stepD σ) w := by
 refine enterVc hd Tryz.func118 rfl Tryz.ntmps118 rfl ?_
 have hgd := Dev.good hd
 have hln := hgd.len
 have hlf := hgd.left
 simp only [envOf]
 refine tR (tA rfl rfl (tE (At.seq (tR (tM rfl rfl (At.callK 0 rfl (fun w hw hr => dead_k _ _ _ w hr) Tryz.call80 rfl rfl (tE ?_)))))))
 refine At.cond rfl (fun h1 => ?_) (fun h1 => ?_)
 ·try simp only [hasB, isSizeB, sB] at h1
  rw [hno] at h1; cases h1
 ·try simp only [hasB, isSizeB, sB] at h1
  refine At.skipC (At.thenN (At.seq (At.openS 0 rfl ?_)))
  simp only [devL, List.cons_append, List.nil_append, ec0, ecS]
  refine At.region (tM rfl rfl (tV (Val.nilCheck rfl) rfl (tV (Val.field 2 rfl fo_111_2 rfl) rfl (tV (Val.load (i := 0) Tryz.isAgg3 rfl rfl rfl) rfl ?_))))
  first | refine tV (Val.addI rfl rfl (by omega) (by omega)) rfl ?_ | refine tV (Val.bin rfl rfl rfl) rfl ?_
  refine tV (Val.nilCheck rfl) rfl (tV (Val.field 2 rfl fo_111_2 rfl) rfl (At.store (i := 0) Tryz.sizeOf3 rfl rfl rfl rfl (by first | decide | simp) ?_))
  simp only [sc0, scS]
  refine tE (At.seq (tR (tM rfl rfl (tV (Val.nilCheck rfl) rfl (tV (Val.field 3 rfl fo_111_3 rfl) rfl (tV (Val.load (i := 0) Tryz.isAgg4 rfl rfl rfl) rfl (tE ?_)))))))
  refine At.cond rfl (fun h2 => ?_) (fun h2 => ?_)
  ·try simp only [hasB, isSizeB, sB] at h2
   have hlp : 1 ≤ σ.left := by rcases Nat.eq_zero_or_pos σ.left with h0 | h0; exact absurd hno (by unfold deadB; simp [h0, h2]); exact h0
   refine At.region (tM rfl rfl (tV (Val.nilCheck rfl) rfl (tV (Val.field 4 rfl fo_111_4 rfl) rfl (tV (Val.load (i := 0) Tryz.isAgg3 rfl rfl rfl) rfl ?_))))
   first | refine tV (Val.subI rfl rfl (by omega) (by omega)) rfl ?_ | refine tV (Val.bin rfl rfl rfl) rfl ?_
   refine tV (Val.nilCheck rfl) rfl (tV (Val.field 4 rfl fo_111_4 rfl) rfl (At.store (i := 0) Tryz.sizeOf3 rfl rfl rfl rfl (by first | decide | simp) ?_))
   simp only [sc0, scS]
   refine tE (tR (tA rfl rfl (tE (At.retC (At.ret1 (.inl rfl) rfl rfl rfl (fun w hw => ?_))))))
   exact ⟨γ, rfl, toDev (F := []) (dgood_step hgd hs) (hw.drop (show List.Sublist [_, _, _, _] _ from (List.Sublist.refl _ |>.cons _ |>.cons_cons _ |>.cons_cons _ |>.cons_cons _ |>.cons_cons _))) (by congr 1; simp [stepD, *]; try omega) rfl rfl rfl⟩
  ·try simp only [hasB, isSizeB, sB] at h2
   refine At.skipC (At.thenN (tR (tA rfl rfl (tE (At.retC (At.ret1 (.inl rfl) rfl rfl rfl (fun w hw => ?_)))))))
   exact ⟨γ, rfl, toDev (F := []) (dgood_step hgd hs) (hw.drop (show List.Sublist [_, _, _, _] _ from (List.Sublist.refl _ |>.cons _ |>.cons_cons _ |>.cons_cons _ |>.cons_cons _ |>.cons_cons _))) (by congr 1; simp [stepD, *]; try omega) rfl rfl rfl⟩
theorem step_0 (p : Nat) (γ : Gh) (σ : Ds) (w : World) (hno : deadB σ = true) (hd : (Dev p γ σ).holds w) :
    Upd Tryz.prog 118 [.pointer (some ⟨p, 0, none⟩)] (Dev p γ σ) (.int .i64 13) (Dev p γ σ) w := by
 refine enterVc hd Tryz.func118 rfl Tryz.ntmps118 rfl ?_
 have hgd := Dev.good hd
 simp only [envOf]
 refine tR (tA rfl rfl (tE (At.seq (tR (tM rfl rfl (At.callK 0 rfl (fun w hw hr => dead_k _ _ _ w hr) Tryz.call80 rfl rfl (tE ?_)))))))
 refine At.cond rfl (fun h1 => ?_) (fun h1 => ?_)
 ·try simp only [hasB, isSizeB, sB] at h1
  refine tR (tA rfl rfl (tE (At.retC (At.thenR (At.ret1 (.inl rfl) rfl rfl rfl (fun w hw => ?_))))))
  exact ⟨rfl, hw⟩
 ·try simp only [hasB, isSizeB, sB] at h1
  rw [hno] at h1; cases h1
end Go.Proofs.YtfchinibjhcejaaGreatDoor
namespace Go.Wk
open Go
section
variable {P : Program} {Γ : Ctx} {E : Env} {H L F : List Res} {ops : Array Oper} {Q : Exit → Act → World → Prop} {rest : List Oper} {w0 w w' : World} {S : Nat → Prop} {φ : Act → World → Prop} {ψ : Act → Prop}
  {d : Nat} {dst : Option Tmp} {gd : Option (Nat × Bool)} {ty : TypeId} {pos : String} {after : Array Edge} {x y z : Operand} {v u : Value} {ws : List Wd} {g : Nat → Nat × Value}
theorem Rep.famNil {I : Nat → Option Res} (hI : ∀ k, I k = none) (h : Rep w0 S H w) : Rep w0 S (fam I :: H) w :=
  ⟨List.pairwise_cons.2 ⟨fun s _ b ⟨k, r, hk, _⟩ _ => (by rw [hI k] at hk; cases hk), h.sep⟩, fun r hr => by
    rcases List.mem_cons.1 hr with rfl | h1
    · exact ⟨fun k r hk => (by rw [hI k] at hk; cases hk), fun k k' r r' hk => (by rw [hI k] at hk; cases hk)⟩
    · exact h.all r h1, fun r hr b hb => by
    rcases List.mem_cons.1 hr with rfl | h1
    · obtain ⟨k, r, hk, _⟩ := hb; rw [hI k] at hk; cases hk
    · exact h.mine r h1 b hb, h.mod⟩
theorem dI_calm (h : ∀ w ∈ ws, w.news = []) (k : Nat) : dI ws g k = none := by
  cases hk : ws[k]? with
  | none => unfold dI; rw [hk]
  | some wd => exact dI_none hk (h wd (List.mem_of_getElem? hk))
theorem dI_calm' {ws' : List Wd} {g' : Nat → Nat × Value} (h : ∀ w ∈ ws, w.news = []) (h' : ∀ w ∈ ws', w.news = []) : dI ws g = dI ws' g' := funext fun k => by rw [dI_calm h, dI_calm h']
theorem mk_calm (h : ∀ w ∈ ws, w.news = []) : mk ws g = fun _ => none := by
  funext q
  unfold mk
  split
  · cases hk : ws[(q / 8).toNat]? with
    | none => unfold mkN; rw [hk]
    | some wd => exact mkN_none hk (h wd (List.mem_of_getElem? hk))
  · rfl
theorem made_w (n : Nat) : (madeCells #[Value.int .u64 0] (n * 1)).toList = (List.replicate n (0 : BitVec 64)).map b64 := by
  rw [Nat.mul_one]
  apply List.ext_getElem
  · simp [madeCells]
  · intro i h1 h2
    simp [madeCells, Nat.mod_one]
theorem At.makeRowW {t e n : Nat} {ti : TypeInfo} (ht : P.underlying t = some (.slice e)) (hti : P.info? e = some ti) (hz : ti.zero = some (.int .u64 0)) (hsize : ti.size = 1) (hb : ti.bytes = 8)
    (hx : ev E x = some (.int .i64 (n : Int))) (hy : ev E y = some (.int .i64 (n : Int))) (h63 : n ≤ 1073741824) (hn : Nat.blt d Γ.n = true)
    (k : ∀ v, At Γ ((d, v) :: E) (wrow e v (List.replicate n 0) :: H) (wpList P ops Q rest)) :
    At Γ E H (wpList P ops Q ({ dst := some d, op := .makeSlice t x y, type := ty, pos, after, guard := none } :: rest)) :=
  At.makeRow ht hti hz hsize (made_w n) hx hy (by rw [hb]; omega) (by omega) hn fun v => by
    have := k v
    unfold wrow at this
    rwa [List.length_replicate] at this
theorem now_last {wd : Wd} (hn : wd.news ≠ []) {y : BitVec 64} (hy : y = wd.news.getLast?.getD wd.old) : wd.news[wd.news.length - 1]? = some y := by
  rw [hy, ← List.getLast?_eq_getElem?]
  cases h : wd.news.getLast? with
  | none => rw [List.getLast?_eq_none_iff] at h; exact absurd h hn
  | some z => rfl
theorem Rep.modF (h : Rep w0 (feet []) H w) : Mod (fun _ => False) w0 w := h.mod.mono (fun b hb => by simp [feet] at hb)
theorem run_callV {n : Nat} {D : List Deferred} {a : Act} (ha : Agrees n D E a) {f : FuncId} {fx : Operand} {caps : List Value} {l : List Operand} {vs : List Value} {at_ : Array TypeId} (hf : ev E fx = some (.func (.func f) #[] caps.toArray)) (hc : ∀ args w, (callFunc f args).run P w = .ok (.enter f args) w) (hv : evs E l = some vs) (w : World) :
    (execOp a.eval { dst := dst, op := .call { callee := .value fx, args := l.toArray, argTypes := at_ }, type := ty, pos, after, guard := gd }).run P w = .ok (.enter f (vs ++ caps).toArray) w := by
  have hev := ha.evals hv
  simp [execOp, resolve, ha.eval hf, Deferred.ofValue, Sem.run_bind, invoke, hev, hc]
theorem QAt.callVKS (L : List Res) {F : List Res} {f : FuncId} {fx : Operand} {caps : List Value} {l : List Operand} {vs : List Value} {at_ : Array TypeId} (hL : H = L ++ F) (hf : ev E fx = some (.func (.func f) #[] caps.toArray)) (h : ∀ w, Rep Γ.w0 Γ.S H w → (star L).holds w → Upd P f (vs ++ caps) (star L) v (star L) w)
    (hc : ∀ args w, (callFunc f args).run P w = .ok (.enter f args) w) (hv : evs E l = some vs) (hn : Nat.blt d Γ.n = true)
    (c : QAt P Γ ops ((d, v) :: E) H rest ψ) : QAt P Γ ops E H ({ dst := some d, op := .call { callee := .value fx, args := l.toArray, argTypes := at_ }, type := ty, pos, after, guard := none } :: rest) ψ := by
  subst hL
  intro a ha
  unfold wpQuiet
  rw [if_pos (by simp [Region.wanted])]
  refine ⟨v, fun w hw => ?_, c _ (ha.put d v hn)⟩
  unfold Oper.quietAt
  rw [run_callV ha hf hc hv w]
  exact ⟨rfl, (h w hw (hw.shutS.all _ (List.mem_cons_self ..))).mono fun e w' ⟨he, hm⟩ => ⟨he, hw.keptS hm⟩⟩
theorem At.winNil (e : Nat) (k : At Γ E (winR (.slice none 0 0) e [] :: H) φ) : At Γ E H φ := fun a w ha hw =>
  k a w ha (hw.new (r' := winR (.slice none 0 0) e []) (Mod.refl _ _) (.inl ⟨rfl, rfl⟩) (fun b hb => by simp [winR, Value.ownBlock] at hb))
theorem At.bornD0 {k b : Nat} {v' : Value} {wo wd : Wd} (hm : wd.mark = 0) (hk : ws[k]? = some wo) (ho : wo.news = []) (hn : wd.news ≠ []) (c : At Γ E (fam (dI (ws.set k wd) (upd g k (b, v'))) :: H) φ) : At Γ E (blk b tDb [v', .int .i64 0] :: winR v' tW (wd.news.map b64) :: fam (dI ws g) :: H) φ := by
  have := At.bornD (Γ := Γ) (E := E) (H := H) (φ := φ) (g := g) (b := b) (v' := v') hk ho hn c
  rwa [hm] at this
theorem At.unfocusZ {k b : Nat} {v' : Value} {wd : Wd} (hm : wd.mark = 0) (hk : k < ws.length) (hn : wd.news ≠ []) (c : At Γ E (fam (dI (ws.set k wd) (upd g k (b, v'))) :: H) φ) : At Γ E (blk b tDb [v', .int .i64 0] :: winR v' tW (wd.news.map b64) :: fam (upd (dI ws g) k none) :: H) φ := by
  have := At.unfocusD (Γ := Γ) (E := E) (H := H) (φ := φ) (g := g) (b := b) (v' := v') hk hn c
  rwa [hm] at this
theorem At.dbtCap {k : Nat} {wd : Wd} {b o n c : Nat} (i : Nat) (hi : H[i]? = some (fam (dI ws g))) (hk : ws[k]? = some wd) (hn : wd.news ≠ []) (hv : (g k).2 = .slice (some ⟨b, o, none⟩) n c) (q : wd.news.length ≤ c → At Γ E H φ) : At Γ E H φ := fun a w ha hw => by
  have h := (fam_dbt (hw.all _ (List.mem_of_getElem? hi)) hk hn).2
  rw [hv] at h
  rcases h with ⟨h1, _⟩ | ⟨b', o', c', cur, h1, _, h2, _⟩
  · cases h1
  · simp only [Value.slice.injEq] at h1
    obtain ⟨_, _, rfl⟩ := h1
    rw [List.length_map] at h2
    exact q h2 a w ha hw
theorem At.winOne (i : Nat) {e : Nat} {xs : List Value} (hi : H[i]? = some (winR v e xs)) (k : v.oneCell' = true → At Γ E H φ) : At Γ E H φ := fun a w ha hw => by
  have h : Win w v e xs := hw.all _ (List.mem_of_getElem? hi)
  rcases h with ⟨rfl, rfl⟩ | ⟨b, o, c, cur, rfl, _⟩ <;> exact k rfl a w ha hw
theorem At.bring (i : Nat) {r : Res} (hi : H[i]? = some r) (k : At Γ E (r :: H.eraseIdx i) φ) : At Γ E H φ := fun a w ha hw => k a w ha (hw.perm (erase_perm H i r hi))
def putK (l : List UInt8) (o : Nat) (x : BitVec 64) (k : Nat) : List UInt8 := l.take o ++ (le8 x).take k ++ l.drop (o + k)
abbrev put8 (l : List UInt8) (o : Nat) (x : BitVec 64) : List UInt8 := putK l o x 8
theorem putK_zero (l : List UInt8) (o : Nat) (x : BitVec 64) : putK l o x 0 = l := by simp [putK]
theorem putK_length {l : List UInt8} {o k : Nat} (x : BitVec 64) (h : o + k ≤ l.length) (hk : k ≤ 8) : (putK l o x k).length = l.length := by
  unfold putK; simp [le_length]; omega
theorem putK_step {l : List UInt8} {o k : Nat} (x : BitVec 64) (h : o + k < l.length) (hk : k < 8) : (putK l o x k).set (o + k) (UInt8.ofNat (x.toNat / 256 ^ k)) = putK l o x (k + 1) := by
  unfold putK
  rw [le_take_succ 8 _ k hk]
  have e : (l.take o ++ (le8 x).take k).length = o + k := by simp [le_length]; omega
  rw [List.set_append_right _ _ (by omega), e, Nat.sub_self, List.drop_eq_getElem_cons h, List.set_cons_zero]
  simp [Nat.add_assoc]
end
end Go.Wk
namespace Go.Wk
open Go
def wbytes (xs : List (BitVec 64)) : List UInt8 := xs.flatMap le8
theorem wbytes_cons (x : BitVec 64) (xs : List (BitVec 64)) : wbytes (x :: xs) = le8 x ++ wbytes xs := rfl
theorem wbytes_append (a b : List (BitVec 64)) : wbytes (a ++ b) = wbytes a ++ wbytes b := by simp [wbytes]
theorem wbytes_length : ∀ xs : List (BitVec 64), (wbytes xs).length = 8 * xs.length
  | [] => rfl
  | x :: xs => by rw [wbytes_cons, List.length_append, wbytes_length xs, le_length, List.length_cons]; omega
theorem le8_zero : le8 0 = zs 8 := rfl
theorem wbytes_zero : ∀ n : Nat, wbytes (List.replicate n 0) = zs (8 * n)
  | 0 => rfl
  | n + 1 => by
    rw [List.replicate_succ, wbytes_cons, wbytes_zero n, le8_zero]
    unfold zs
    rw [List.replicate_append_replicate]; congr 1; omega
theorem put8_set {xs : List (BitVec 64)} {k : Nat} (x : BitVec 64) (h : k < xs.length) : put8 (wbytes xs) (8 * k) x = wbytes (xs.set k x) := by
  have e : xs = xs.take k ++ xs[k] :: xs.drop (k + 1) := by rw [← List.drop_eq_getElem_cons h, List.take_append_drop]
  have hl : (wbytes (xs.take k)).length = 8 * k := by rw [wbytes_length, List.length_take]; omega
  have e2 : wbytes xs = wbytes (xs.take k) ++ (le8 xs[k] ++ wbytes (xs.drop (k + 1))) := by conv => lhs; rw [e, wbytes_append, wbytes_cons]
  rw [List.set_eq_take_append_cons_drop, if_pos h, wbytes_append, wbytes_cons]
  unfold put8 putK
  rw [e2, List.take_left' hl, le_take_all, ← List.append_assoc (wbytes (xs.take k)) (le8 xs[k]), List.drop_left' (by rw [List.length_append, hl, le_length]), List.append_assoc]
theorem wbytes_take {xs : List (BitVec 64)} {k : Nat} {x : BitVec 64} (h : xs[k]? = some x) : ((wbytes xs).drop (8 * k)).take 8 = le8 x := by
  have hk := (List.getElem?_eq_some_iff.1 h)
  have e : xs = xs.take k ++ x :: xs.drop (k + 1) := by rw [← hk.2, ← List.drop_eq_getElem_cons hk.1, List.take_append_drop]
  have hl : (wbytes (xs.take k)).length = 8 * k := by rw [wbytes_length, List.length_take]; have := hk.1; omega
  have e2 : wbytes xs = wbytes (xs.take k) ++ (le8 x ++ wbytes (xs.drop (k + 1))) := by conv => lhs; rw [e, wbytes_append, wbytes_cons]
  rw [e2, List.drop_left' hl, List.take_left' (le_length ..)]
theorem wbytes_word {xs : List (BitVec 64)} {k : Nat} {x : BitVec 64} (h : xs[k]? = some x) : wdA (wbytes xs) (8 * k) = x := by
  unfold wdA num
  rw [wbytes_take h]
  exact num_le8 x
theorem take_set_zero {xs : List (BitVec 64)} {k : Nat} {x : BitVec 64} (h : xs[k]? = some x) : (xs.take k ++ List.replicate (xs.length - k) 0).set k x = xs.take (k + 1) ++ List.replicate (xs.length - (k + 1)) 0 := by
  have hk := (List.getElem?_eq_some_iff.1 h).1
  rw [List.set_append_right _ _ (by rw [List.length_take]; omega), List.length_take, show min k xs.length = k by omega, Nat.sub_self]
  obtain ⟨m, hm⟩ : ∃ m, xs.length - k = m + 1 := ⟨xs.length - k - 1, by omega⟩
  rw [hm, List.replicate_succ, List.set_cons_zero, show xs.length - (k + 1) = m from by omega, List.take_add_one, h]
  simp
abbrev RdI (w : World) (v : Value) (l : List Int) : Prop := Rd w v 1 l.length (l.map (Value.int .i64))
section
variable {P : Program} {Γ : Ctx} {E : Env} {H L F : List Res} {ops : Array Oper} {Q : Exit → Act → World → Prop} {rest : List Oper} {w0 w w' : World} {S : Nat → Prop} {φ : Act → World → Prop} {ψ : Act → Prop}
  {d : Nat} {dst : Option Tmp} {gd : Option (Nat × Bool)} {ty : TypeId} {pos : String} {after : Array Edge} {x y z : Operand} {v u : Value}
theorem At.sink5 {a b c e f r : Res} (h : At Γ E (a :: b :: c :: e :: f :: r :: F) φ) : At Γ E (r :: a :: b :: c :: e :: f :: F) φ := fun q w ha hw => h q w ha (hw.perm (List.perm_middle (l₁ := [a, b, c, e, f])).symm)
theorem At.rowCapD {i e sz n c : Nat} {A : Option Addr} {xs : List Value} (hi : H[i]? = some (rowR (.slice A n c) e sz n xs)) (k : n ≤ c → At Γ E H φ) : At Γ E H φ := fun a w ha hw => by
  rcases (hw.row hi).2 with ⟨_, h⟩ | ⟨b, cap, cur, h, h1⟩
  · exact k (by omega) a w ha hw
  · simp only [Value.slice.injEq] at h
    obtain ⟨_, _, rfl⟩ := h
    exact k (by have := h1; omega) a w ha hw
theorem Val.makeFunc2 {fn : FuncId} {x y : Operand} (hx : ev E x = some v) (hy : ev E y = some u) : Val P Γ E H ⟨dst, .makeFunc (.func fn) #[] #[x, y], ty, pos, after, gd⟩ (.func (.func fn) #[] #[v, u]) := fun a w ha _ => by
  simp [execOp, Instr.makeFunc, ha.eval hx, ha.eval hy]
end
end Go.Wk
namespace Go.Wk
open Go Go.ChangeShapes Go.WideShapes Go.ChangeAt Go.RowKit
abbrev Nt := Int × Int × BitVec 64
section
variable {P : Program} {Γ : Ctx} {E : Env} {H : List Res} {ops : Array Oper} {Q : Exit → Act → World → Prop} {rest : List Oper} {ψ : Act → Prop}
  {d : Nat} {dst : Option Tmp} {g : Option (Nat × Bool)} {ty : TypeId} {pos : String} {after : Array Edge} {x y z : Operand} {v u : Value}
theorem Rd.off {w : World} {sz n : Nat} {xs : List Value} (h : Rd w v sz n xs) {S : Nat → Prop} (hS : ∀ b, S b → w.heap.size ≤ b) : Off v xs S := fun hne b o s n' c hv hb => by
  obtain ⟨A, c', rfl, h2, _⟩ := h
  have hl : 0 < xs.length := List.length_pos_iff.2 hne
  obtain ⟨b', o', e, hc⟩ := h2 0 _ (List.getElem?_eq_getElem hl)
  simp only [Value.slice.injEq] at hv
  rw [hv.1] at e
  simp only [Option.some.injEq, Addr.mk.injEq] at e
  obtain ⟨rfl, _, _⟩ := e
  have := block_lt_of_cell hc
  have := hS _ hb
  simp only at *; omega
end
section
variable {H : Type} {enc : TypeId × Value → H} {P : Program} {W : World} {r : Reach} {base b0 : Nat} {sp : Nat → Bool} {held : Bool}
theorem choose_list' {α : Type} {Q : Nat → α → Prop} : ∀ n : Nat, (∀ j, j < n → ∃ z, Q j z) → ∃ zs : List α, zs.length = n ∧ ∀ j z, zs[j]? = some z → Q j z
  | 0, _ => ⟨[], rfl, fun j z h => by simp at h⟩
  | n + 1, h => by
    obtain ⟨zs, hl, hz⟩ := choose_list' n (fun j hj => h j (by omega))
    obtain ⟨z, hq⟩ := h n (by omega)
    refine ⟨zs ++ [z], by simp [hl], fun j y hy => ?_⟩
    rcases Nat.lt_or_ge j n with hj | hj
    · rw [List.getElem?_append_left (by omega)] at hy; exact hz j y hy
    · have hj' : j < (zs ++ [z]).length := (List.getElem?_eq_some_iff.1 hy).1
      rw [List.length_append, hl] at hj'
      obtain rfl : n = j := by simp at hj'; omega
      rw [List.getElem?_append_right (by omega), hl, Nat.sub_self] at hy
      obtain rfl := Option.some.inj hy
      exact hq
def Fits (z : Int) : Prop := -9223372036854775808 ≤ z ∧ z ≤ 9223372036854775807
end
end Go.Wk
namespace Go.Wk
open Go
abbrev Dt := Int × BitVec 64 × List (BitVec 64)
abbrev Dq := Dt × Value
section
variable {P : Program} {Γ : Ctx} {E : Env} {H L F : List Res} {ops : Array Oper} {R : Exit → Act → World → Prop} {rest : List Oper} {w0 w w' : World} {S : Nat → Prop} {φ : Act → World → Prop} {ψ : Act → Prop}
  {d : Nat} {dst : Option Tmp} {g : Option (Nat × Bool)} {ty : TypeId} {pos : String} {after : Array Edge} {x y z : Operand} {v u : Value} {Q : List Dq} {q : Dq}
theorem Val.eqNilS {t t' el : TypeId} {a' : Addr} {n c : Nat} (h : P.underlying t = some (.slice el)) (hx : ev E x = some (.slice (some a') n c)) : Val P Γ E H ⟨dst, .binOp .eql t x (.const (.slice none 0 0)) t', ty, pos, after, g⟩ (.bool false) := fun a w ha _ => by
  have hc : a.eval (.const (.slice none 0 0)) = .slice none 0 0 := rfl
  simp [execOp, ha.eval hx, hc, eqGuard, Lib.run_eql_slice_some_nil w a' n c h]
theorem Rep.offRow {i j : Nat} {r : Res} {e sz n : Nat} {xs : List Value} (hw : Rep w0 S H w) (hi : H[i]? = some (rowR v e sz n xs)) (hj : H[j]? = some r) (hij : i ≠ j) : Off v xs (feet [r]) := fun _ b o s n c hv ⟨q, hq, hb⟩ => by
  rw [List.mem_singleton.1 hq] at hb
  have hi' := List.getElem?_eq_some_iff.1 hi
  have hj' := List.getElem?_eq_some_iff.1 hj
  have hp := List.pairwise_iff_getElem.1 hw.sep
  have hf : (rowR v e sz n xs : Res).foot b := by subst hv; rfl
  rcases Nat.lt_or_gt_of_ne hij with h | h
  · have := hp i j hi'.1 hj'.1 h
    rw [hi'.2, hj'.2] at this
    exact this b hf hb
  · have := hp j i hj'.1 hi'.1 h
    rw [hi'.2, hj'.2] at this
    exact this b hb hf
theorem QAt.idxF {α : Type} {f : α → Value} {t el : Nat} {l : List α} {k : IntKind} {j : Int} (h : Rd Γ.w0 v 1 l.length (l.map f)) (hu : P.underlying t = some (.slice el)) (hs : ∀ w, (sizeOf el).run P w = .ok 1 w) (hx : ev E x = some v) (hy : ev E y = some (.int k j)) (h0 : 0 ≤ j) (h1 : j < l.length)
    (hg : g = none) (hn : Nat.blt d Γ.n = true)
    (c : ∀ b o q, l[j.toNat]? = some q → Γ.w0.cell? ⟨b, o, none⟩ = some (f q) → QAt P Γ ops ((d, .pointer (some ⟨b, o, none⟩)) :: E) H rest ψ) :
    QAt P Γ ops E H ({ dst := some d, op := .indexAddr t x y, type := ty, pos, after, guard := g } :: rest) ψ :=
  QAt.idxRd h hu hs hx hy h0 h1 hg hn fun b o hc => by
    have hq : l[j.toNat]? = some (l[j.toNat]'(by omega)) := List.getElem?_eq_getElem _
    exact c b o _ hq (hc 0 _ (by rw [Nat.mul_one, Nat.add_zero, List.getElem?_map, hq]; rfl))
end
end Go.Wk
namespace Go.Wk
open Go
structure Rl where
  first : List (BitVec 64)
  puts : List (Nat × BitVec 64 × Nat)
  fl : List Nat
structure Rs where
  ls : List Rl
  fenced : Nat
  now : Nat
  left : Int
abbrev Lq := Rl × Value × Value
structure Rg where
  vl : Value
  Q : List Lq
def First8 (Q : List Lq) : Prop := ∀ x ∈ Q, x.1.first.length = 8
theorem First8.tail {x : Lq} {Q : List Lq} (h : First8 (x :: Q)) : First8 Q := fun y hy => h y (List.mem_cons_of_mem _ hy)
section
variable {P : Program} {Γ : Ctx} {E : Env} {H L F : List Res} {ops : Array Oper} {R : Exit → Act → World → Prop} {rest : List Oper} {w0 w w' : World} {S : Nat → Prop} {φ : Act → World → Prop} {ψ : Act → Prop}
  {d : Nat} {dst : Option Tmp} {g : Option (Nat × Bool)} {ty : TypeId} {pos : String} {after : Array Edge} {x y z : Operand} {v u : Value} {p : Nat} {γ : Rg} {ρ ρ' : Rs} {Q : List Lq} {q : Lq}
def RowKT (P : Program) (f : FuncId) (vs : List Value) (r : Res) (gv : Value → Value) (e sz n : Nat) (xs : List Value) (w : World) : Prop := Calls P f vs.toArray w fun q w' => ∃ v', q = .returned (gv v') ∧ Rep w (feet [r]) [rowR v' e sz n xs, r] w'
theorem At.callRKT (i : Nat) {r : Res} {gv : Value → Value} {e sz n : Nat} {xs : List Value} {f : FuncId} {l : List Operand} {vs : List Value} {at_ : Array TypeId} (hi : H[i]? = some r) (h : ∀ w, Rep Γ.w0 Γ.S H w → r.holds w → RowKT P f vs r gv e sz n xs w) (hc : ∀ args w, (callFunc f args).run P w = .ok (.enter f args) w) (hv : evs E l = some vs) (hn : Nat.blt d Γ.n = true)
    (c : ∀ v', At Γ ((d, gv v') :: E) (rowR v' e sz n xs :: H) (wpList P ops R rest)) :
    At Γ E H (wpList P ops R ({ dst := some d, op := .call { callee := .value (.func f), args := l.toArray, argTypes := at_ }, type := ty, pos, after, guard := none } :: rest)) :=
  At.call hc hv hn fun w hw => (h w hw (hw.all _ (List.mem_of_getElem? hi))).mono fun q w' ⟨v', he, hr⟩ => ⟨gv v', _, he, by
    have h1 : Rep Γ.w0 Γ.S ([r] ++ H.eraseIdx i) w := hw.perm (erase_perm H i r hi)
    exact (h1.frame (H0' := [rowR v' e sz n xs, r]) hr).perm ((erase_perm H i r hi).symm.cons _), c v'⟩
end
end Go.Wk
namespace Go.Proofs.YtfchinibjhcejaaGreatDoor
open Go Go.Wk
def hasR (ρ : Rs) (a n : Int) : Bool := decide (0 ≤ a ∧ 0 ≤ n ∧ a ≤ 64 * (ρ.ls.length : Int) ∧ n ≤ 64 * (ρ.ls.length : Int) - a)
def stepR (ρ : Rs) : Rs := { ρ with now := ρ.now + 1, left := if ρ.left > 0 then ρ.left - 1 else ρ.left }
end Go.Proofs.YtfchinibjhcejaaGreatDoor
namespace Go.Proofs.YtfchinibjhcejaaGreatDoor
open Go Go.Wk
def setF (F : Nat) (fl : List Nat) : Nat := fl.foldl (fun t x => if x < F then x else t) 0
end Go.Proofs.YtfchinibjhcejaaGreatDoor
namespace Go.Proofs.YtfchinibjhcejaaGreatDoor
open Go Go.Wk
def storeL (ρ : Rs) (k j : Nat) (l : Rl) (x : BitVec 64) : Rs := { stepR ρ with ls := ρ.ls.set k { l with puts := l.puts ++ [(j, x, ρ.now + 1)] } }
end Go.Proofs.YtfchinibjhcejaaGreatDoor
namespace Go.Proofs.YtfchinibjhcejaaGreatDoor
open Go Go.Wk
theorem wz_calm (n : Nat) : ∀ w ∈ wz n, w.news = [] := fun w hw => by rw [(List.mem_replicate.1 hw).2]; rfl
theorem olds_wz (n : Nat) : olds (wz n) = List.replicate n 0 := by simp [olds, wz, zWd]
theorem zeroD_good {n : Nat} (h : isSizeB (8 * (n : Int)) = true) : Dgood (zeroD n) := by
  unfold isSizeB at h
  rw [decide_eq_true_eq] at h
  have e : (zeroD n).ws.length = n := by simp [zeroD, wz]
  exact ⟨by rw [e]; omega, by rw [e]; omega, by rw [e]; omega, by simp [zeroD], by simp [zeroD], fun w hw => by
    have := (List.mem_replicate.1 hw).2
    subst this; exact ⟨Nat.le_refl _, Nat.le_refl _⟩⟩
theorem now_old {wd : Wd} (h : wd.news = []) : nowW wd = wd.old := by unfold nowW; rw [h]; rfl
theorem bld_dev (a : Option Addr) (n c m : Nat) (w : World) : (Instr.build 111 #[(0, .slice a n c), (1, .map (some m))]).run Tryz.prog w = .ok (.agg #[.slice a n c, .map (some m), .int .i64 0, .bool false, .int .i64 0]) w := by kernel_rfl
theorem wordOf_p (v : Value) (l : List UInt8) (w : World) (hv : RdB w v l) (h8 : 8 ≤ l.length) :
    PureC Tryz.prog 79 [v] (b64 (wdA l 0)) w := by
 refine enter0 Tryz.func79 rfl Tryz.ntmps79 rfl ?_
 simp only [envOf]
 refine tR (tA rfl rfl (tE (tR (tA rfl rfl (tE (At.seq (tR (tA rfl rfl (tE (At.block ?_))))))))))
 skip
 refine At.loop (σ := Nat) (fun k => k ≤ 8) (fun k => [(0, v), (3, .int .u64 ((num l k (8 - k) : Nat) : Int)), (4, .int .i64 ((k : Int) - 1))]) (fun k => []) (fun k => k) 8 (Nat.le_refl _) (Sub.cons rfl (Sub.cons (congrArg (fun z => some (Value.int IntKind.u64 z)) (by rw [Nat.sub_self, num_zero]; rfl)) (Sub.cons rfl Sub.nil))) (List.Perm.refl _) ?_
 intro k hs
 refine At.seq (tR (tM rfl rfl (tV (Val.bin rfl rfl rfl) rfl (tE ?_))))
 refine At.cond rfl (fun h1 => ?_) (fun h1 => ?_)
 ·try simp only [hasB, isSizeB, sB] at h1
  have hk : 1 ≤ k := by omega
  refine At.skipC (At.thenN (At.seq (At.block (At.region (tM rfl rfl (tV (Val.shl rfl rfl (by decide)) rfl (tM rfl rfl (tM rfl rfl (At.idxB hv Tryz.underlying29 Tryz.sizeOf5 rfl rfl (by omega) (by omega) rfl rfl (fun b2 o3 q4 hq5 hl6 hc7 => (tV (Val.loadOld Tryz.isAgg5 rfl hc7 (fun h => h)) rfl (tV (Val.toU Tryz.underlying5 Tryz.underlying43 rfl (by omega) (by omega)) rfl ?_))))))))))))
  have hq8 := hq5
  have e1 : ((k : Int) - 1).toNat = k - 1 := by omega
  rw [e1] at hq8
  have hlt := num_lt (l := l) k (8 - k)
  have hlt' : num l k (8 - k) < 72057594037927936 := Nat.lt_of_lt_of_le hlt (Nat.pow_le_pow_right (n := 256) (i := 8 - k) (j := 7) (by decide) (by omega))
  refine tV (Val.bin rfl rfl rfl) rfl ?_
  rw [or_low hlt' (UInt8.toNat_lt _)]
  refine tA rfl rfl (At.nil (At.blkN (At.thenN (At.region (tM rfl rfl ?_)))))
  first | refine tV (Val.subI rfl rfl (by omega) (by omega)) rfl ?_ | refine tV (Val.bin rfl rfl rfl) rfl ?_
  refine tA rfl rfl (tE ?_)
  exact At.again (k - 1) (show k - 1 ≤ 8 by omega) (show k - 1 < k by omega) (Sub.cons rfl (Sub.cons (congrArg (fun z => some (Value.int IntKind.u64 z)) (by rw [show 8 - (k - 1) = 8 - k + 1 by omega, num_cons hq8, show k - 1 + 1 = k by omega])) (Sub.cons (congrArg (fun z => some (Value.int IntKind.i64 z)) (by omega)) Sub.nil))) (List.Perm.refl _)
 ·try simp only [hasB, isSizeB, sB] at h1
  obtain rfl : k = 0 := by omega
  refine At.exitC (At.thenX (At.thenX (At.blkX (At.thenN (tR (tM rfl rfl (tA rfl rfl (tE (At.retC (At.ret1 (.inl rfl) rfl rfl rfl (fun w hw => ?_)))))))))))
  exact ⟨congrArg Ending.returned (wdA_val l 0), hw.mod⟩
theorem putW_r (b o m cc n c : Nat) (l : List UInt8) (x : BitVec 64) (w : World) (h8 : 8 ≤ m) (ho8 : o + 8 ≤ l.length) (hr : (brow 5 (.slice (some ⟨b, 0, none⟩) n c) l).holds w) :
    Upd Tryz.prog 94 [.slice (some ⟨b, o, none⟩) m cc, b64 x] (brow 5 (.slice (some ⟨b, 0, none⟩) n c) l) (.tuple #[]) (brow 5 (.slice (some ⟨b, 0, none⟩) n c) (put8 l o x)) w := by
 refine enter (feet [brow 5 (.slice (some ⟨b, 0, none⟩) n c) l]) [brow 5 (.slice (some ⟨b, 0, none⟩) n c) l] Tryz.func94 rfl Tryz.ntmps94 rfl (Rep.one hr) ?_
 simp only [envOf]
 refine tR (tM rfl rfl (tE (At.block ?_)))
 skip
 refine At.loop (σ := Nat) (fun k => k ≤ 8) (fun k => [(0, .slice (some ⟨b, o, none⟩) m cc), (1, b64 x), (5, .int .i64 (k : Int))]) (fun k => [brow 5 (.slice (some ⟨b, 0, none⟩) n c) (putK l o x k)]) (fun k => 8 - k) 0 (Nat.zero_le _) (Sub.cons rfl (Sub.cons rfl (Sub.cons rfl Sub.nil))) (by rw [putK_zero]) ?_
 intro k hs
 refine tR (tV (Val.bin rfl rfl rfl) rfl (tE (At.seq ?_)))
 refine At.cond rfl (fun h1 => ?_) (fun h1 => ?_)
 ·try simp only [hasB, isSizeB, sB] at h1
  have hk : k < 8 := by omega
  refine At.skipC (At.thenN (At.seq (At.block (tR (tM rfl rfl (tA rfl rfl (tE (At.region (tM rfl rfl (tM rfl rfl (tM rfl rfl (tM rfl rfl (tV (Val.mulI rfl rfl (by omega) (by omega)) rfl (tV (Val.shr rfl rfl (by omega)) rfl ?_))))))))))))))
  rw [shr_byte x hk]
  refine tV (Val.toB Tryz.underlying43 Tryz.underlying5 rfl (Int.natCast_nonneg _)) rfl ?_
  rw [Int.toNat_natCast]
  refine tV (Val.indexSl (o + k) (by omega) Tryz.underlying29 Tryz.sizeOf5 rfl rfl (by omega) (by omega)) rfl ?_
  have hpl := putK_length (l := l) (o := o) (k := k) x (by omega) (by omega)
  refine At.storeRowB (i := 0) Tryz.sizeOf5 rfl rfl rfl (by omega) ?_
  simp only [sc0, scS]
  rw [putK_step x (by omega) hk]
  refine At.nil (At.blkN (At.thenN (At.region ?_)))
  first | refine tV (Val.addI rfl rfl (by omega) (by omega)) rfl ?_ | refine tV (Val.bin rfl rfl rfl) rfl ?_
  refine tM rfl rfl (tE ?_)
  exact At.again (k + 1) (show k + 1 ≤ 8 by omega) (by omega) (Sub.cons rfl (Sub.cons rfl (Sub.cons (congrArg (fun z => some (Value.int IntKind.i64 z)) (by omega)) Sub.nil))) (List.Perm.refl _)
 ·try simp only [hasB, isSizeB, sB] at h1
  obtain rfl : k = 8 := by omega
  refine At.exitC (At.thenX (At.thenX (At.blkX (At.ret0 (.inr rfl) rfl rfl  (fun w hw => ?_)))))
  exact ⟨rfl, hw⟩
theorem putW_b (b U : Nat) (cs : List Value) (x : BitVec 64) (w : World) (hcs : cs.length = 8) (hr : (blk b U cs).holds w) :
    Upd Tryz.prog 94 [.slice (some ⟨b, 0, none⟩) 8 8, b64 x] (blk b U cs) (.tuple #[]) (blk b U ((le8 x).map bv)) w := by
 refine enter (feet [blk b U cs]) [blk b U cs] Tryz.func94 rfl Tryz.ntmps94 rfl (Rep.one hr) ?_
 have hll : ((le8 x).map bv).length = cs.length := by rw [List.length_map, le_length, hcs]
 simp only [envOf]
 refine tR (tM rfl rfl (tE (At.block ?_)))
 skip
 refine At.loop (σ := Nat) (fun k => k ≤ 8) (fun k => [(0, .slice (some ⟨b, 0, none⟩) 8 8), (1, b64 x), (5, .int .i64 (k : Int))]) (fun k => [blk b U (fillG ((le8 x).map bv) cs k)]) (fun k => 8 - k) 0 (Nat.zero_le _) (Sub.cons rfl (Sub.cons rfl (Sub.cons rfl Sub.nil))) (by rw [fillG_zero]) ?_
 intro k hs
 refine tR (tV (Val.bin rfl rfl rfl) rfl (tE (At.seq ?_)))
 refine At.cond rfl (fun h1 => ?_) (fun h1 => ?_)
 ·try simp only [hasB, isSizeB, sB] at h1
  have hk : k < 8 := by omega
  refine At.skipC (At.thenN (At.seq (At.block (tR (tM rfl rfl (tA rfl rfl (tE (At.region (tM rfl rfl (tM rfl rfl (tM rfl rfl (tM rfl rfl (tV (Val.mulI rfl rfl (by omega) (by omega)) rfl (tV (Val.shr rfl rfl (by omega)) rfl ?_))))))))))))))
  rw [shr_byte x hk]
  refine tV (Val.toB Tryz.underlying43 Tryz.underlying5 rfl (Int.natCast_nonneg _)) rfl ?_
  rw [Int.toNat_natCast]
  refine tV (Val.indexSl k (by omega) Tryz.underlying29 Tryz.sizeOf5 rfl rfl (by omega) (by omega)) rfl ?_
  have hfl := fillG_length hll k
  refine At.store (i := 0) Tryz.sizeOf5 rfl rfl rfl rfl (by rw [hfl, List.length_map, le_length]; exact hk) ?_
  simp only [sc0, scS]
  rw [fillG_step (by rw [List.getElem?_map, le_get 8 _ k hk]; rfl) hll]
  refine At.nil (At.blkN (At.thenN (At.region ?_)))
  first | refine tV (Val.addI rfl rfl (by omega) (by omega)) rfl ?_ | refine tV (Val.bin rfl rfl rfl) rfl ?_
  refine tM rfl rfl (tE ?_)
  exact At.again (k + 1) (show k + 1 ≤ 8 by omega) (by omega) (Sub.cons rfl (Sub.cons rfl (Sub.cons (congrArg (fun z => some (Value.int IntKind.i64 z)) (by omega)) Sub.nil))) (List.Perm.refl _)
 ·try simp only [hasB, isSizeB, sB] at h1
  obtain rfl : k = 8 := by omega
  refine At.exitC (At.thenX (At.thenX (At.blkX (At.ret0 (.inr rfl) rfl rfl  (fun w hw => ?_)))))
  rw [fillG_all (by rw [List.length_map, le_length]) hcs] at hw
  exact ⟨rfl, hw⟩
theorem now_k (p : Nat) (γ : Gh) (σ : Ds) (k : Nat) (wd : Wd) (w : World) (hk : σ.ws[k]? = some wd) (hd : (Dev p γ σ).holds w) :
    Upd Tryz.prog 116 [.pointer (some ⟨p, 0, none⟩), .int .i64 (8 * (k : Int))] (Dev p γ σ) (b64 (nowW wd)) (Dev p γ σ) w := by
 refine enterV hd Tryz.func116 rfl Tryz.ntmps116 rfl ?_
 unfold devL
 have hgd := Dev.good hd
 have hln := hgd.len
 have hkl := (List.getElem?_eq_some_iff.1 hk).1
 have hst := hgd.steps
 have hwd := hgd.word wd (List.mem_of_getElem? hk)
 simp only [envOf]
 refine tR (tA rfl rfl (tE (At.seq (tR (tM rfl rfl (tV (Val.nilCheck rfl) rfl (tV (Val.field 1 rfl fo_111_1 rfl) rfl (tV (Val.load (i := 0) Tryz.isAgg109 rfl rfl rfl) rfl (tM rfl rfl (tV (Val.look (i := 2) Tryz.underlying109 Tryz.underlying3 Tryz.zeroValue113 rfl rfl rfl) rfl ?_))))))))))
 by_cases hn : wd.news = []
 ·rw [mk_at, mkN_none hk hn]
  refine tA rfl rfl (tE (tR (tM rfl rfl (tV (Val.neNil (t := 113) (by kernel_rfl) rfl) rfl (tE (At.condF rfl (At.skipC (At.thenN (tR (tM rfl rfl (tV (Val.nilCheck rfl) rfl (tV (Val.field 0 rfl fo_111_0 rfl) rfl (tV (Val.load (i := 0) Tryz.isAgg98 rfl rfl rfl) rfl (tM rfl rfl (tV (Val.quoI rfl rfl (by omega) (by omega) (by decide)) rfl ?_)))))))))))))))
  rw [show 8 * (k : Int) / 8 = (k : Int) from by omega]
  refine tV (Val.indexRow (i := 1) k (by omega) Tryz.underlying98 Tryz.sizeOf43 rfl rfl rfl (by omega) (by rw [olds_length]; omega)) rfl ?_
  refine tV (Val.loadRow (i := 1) Tryz.isAgg43 rfl rfl (by rw [List.getElem?_map, olds_at hk]; rfl)) rfl ?_
  refine tA rfl rfl (tE (At.retC (At.ret1 (.inl rfl) rfl rfl rfl (fun w hw => ?_))))
  exact ⟨congrArg (fun z => Ending.returned (b64 z)) (now_old hn).symm, retK (F := []) hw⟩
 ·rw [mk_at, mkN_some hk hn]
  have hpos := List.length_pos_iff.2 hn
  refine tA rfl rfl (tE (tR (tM rfl rfl (tV (Val.neNil (t := 113) (by kernel_rfl) rfl) rfl (tE (At.condT rfl (At.seq (At.dbtSome 3 rfl hk hn (fun b o c hv => (At.quiet rfl (by decide +kernel) (qM rfl rfl (qV (Val.nilCheck rfl) rfl (qV (Val.field 0 rfl fo_115_0 rfl) rfl (qV (Val.loadDbt (i := 3) Tryz.isAgg98 rfl rfl hk hn rfl) rfl (qM rfl rfl (qV (Val.nilCheck rfl) rfl (qV (Val.field 0 rfl fo_115_0 rfl) rfl (qV (Val.loadDbt (i := 3) Tryz.isAgg98 rfl rfl hk hn rfl) rfl (qV (Val.lenDbt (i := 3) rfl hk hn Tryz.underlying98 rfl) rfl (qV (Val.subI rfl rfl (by omega) (by omega)) rfl ?_))))))))))))))))))))
  rw [hv]
  refine qV (Val.indexSl (o + (wd.news.length - 1)) (by omega) Tryz.underlying98 Tryz.sizeOf43 rfl rfl (by omega) (by omega)) rfl (qV (Val.loadNews (i := 3) Tryz.isAgg43 rfl rfl hk hn hv rfl (now_last hn (y := nowW wd) rfl)) rfl (qV (Val.assign rfl) rfl (QAt.fin (At.thenN (At.retC (At.thenR (At.ret1 (.inl rfl) rfl rfl rfl (fun w hw => ?_))))))))
  exact ⟨rfl, retK (F := []) hw⟩
end Go.Proofs.YtfchinibjhcejaaGreatDoor
namespace Go.Proofs.YtfchinibjhcejaaGreatDoor
open Go Go.Wk
def loadWs (l : List UInt8) : List Wd := (List.range (l.length / 8)).map fun i => ⟨wdA l (8 * i), [], 0⟩
def loadD (l : List UInt8) : Ds := ⟨loadWs l, 0, false, 0⟩
theorem loadWs_length (l : List UInt8) : (loadWs l).length = l.length / 8 := by simp [loadWs]
theorem loadWs_calm (l : List UInt8) : ∀ w ∈ loadWs l, w.news = [] := fun w hw => by
  obtain ⟨i, _, rfl⟩ := List.mem_map.1 hw; rfl
theorem loadD_good {l : List UInt8} (h : isSizeB (l.length : Int) = true) : Dgood (loadD l) := by
  unfold isSizeB at h
  rw [decide_eq_true_eq] at h
  have e : (loadD l).ws.length = l.length / 8 := loadWs_length l
  exact ⟨by rw [e]; omega, by rw [e]; omega, by rw [e]; omega, by simp [loadD], by simp [loadD], fun w hw => by
    obtain ⟨i, _, rfl⟩ := List.mem_map.1 hw
    exact ⟨Nat.le_refl _, Nat.le_refl _⟩⟩
def fillW (l : List UInt8) (k : Nat) : List (BitVec 64) := ((List.range k).map fun i => wdA l (8 * i)) ++ List.replicate (l.length / 8 - k) 0
theorem fillW_length {l : List UInt8} {k : Nat} (h : k ≤ l.length / 8) : (fillW l k).length = l.length / 8 := by unfold fillW; simp; omega
theorem fillW_step {l : List UInt8} {k : Nat} (h : k < l.length / 8) : (fillW l k).set k (wdA l (8 * k)) = fillW l (k + 1) := by
  unfold fillW
  rw [List.set_append_right _ _ (by simp), List.length_map, List.length_range, Nat.sub_self, List.range_succ, List.map_append]
  obtain ⟨m, hm⟩ : ∃ m, l.length / 8 - k = m + 1 := ⟨l.length / 8 - k - 1, by omega⟩
  rw [hm, List.replicate_succ, List.set_cons_zero, show l.length / 8 - (k + 1) = m from by omega]
  simp
theorem fillW_all (l : List UInt8) : fillW l (l.length / 8) = olds (loadD l).ws := by
  unfold fillW olds loadD loadWs
  simp [Function.comp_def]
theorem wdA_drop (l : List UInt8) (a : Nat) : wdA (l.drop a) 0 = wdA l a := by unfold wdA num; rw [List.drop_zero]
def armD (σ : Ds) (m : Nat) : Ds := { σ with armed := true, left := m }
theorem armD_good {σ : Ds} {m : Nat} (h : Dgood σ) (hm : m ≤ 9223372036854775807) : Dgood (armD σ m) := ⟨h.pos, h.len, h.lines, h.steps, hm, h.word⟩
theorem place_at {σ : Ds} {k : Nat} (h : k < σ.ws.length) : placeE σ (8 * (k : Int)) = 0 := by unfold placeE; rw [if_pos (by omega), if_pos (by omega)]
theorem rot3p {a b c f : Res} : List.Perm [f, a, b, c] [a, c, b, f] := by
  refine (List.perm_middle (l₁ := [a, b, c]) (l₂ := [])).symm.trans ?_
  exact ((List.Perm.swap c b [f])).cons a
theorem new_d (N : Nat) (w : World) (hn : isSizeB (8 * (N : Int)) = true) :
    NewDev Tryz.prog 78 [.int .i64 (8 * (N : Int))] (zeroD N) w := by
 refine enter (feet []) [] Tryz.func78 rfl Tryz.ntmps78 rfl ⟨by simp, by simp, by simp, Mod.refl _ _⟩ ?_
 have hnn := hn
 unfold isSizeB at hnn
 rw [decide_eq_true_eq] at hnn
 simp only [envOf]
 refine tR (tA rfl rfl (tA rfl rfl (tE (At.seq (tR (tM rfl rfl (At.callP (fun w hw => isSize_p _ w) Tryz.call113 rfl rfl (tV (Val.not rfl) rfl (tE ?_)))))))))
 refine At.cond rfl (fun h1 => ?_) (fun h1 => ?_)
 ·try simp only [hasB, isSizeB, sB] at h1
  omega
 ·try simp only [hasB, isSizeB, sB] at h1
  refine At.skipC (At.thenN (tR (tM rfl rfl (tV (Val.quoI rfl rfl (by omega) (by omega) (by decide)) rfl ?_))))
  rw [show 8 * (N : Int) / 8 = (N : Int) from by omega]
  refine At.makeRowW Tryz.underlying98 info_43 rfl rfl rfl rfl rfl (by omega) rfl (fun v2 => (At.makeMap rfl (fun mb3 => (At.rowIs (i := 1) rfl (fun A4 c5 hv => ?_)))))
  subst hv
  refine tV (Val.build (fun a ha => by simp only [List.map_toArray, List.map_cons, List.map_nil, ha.eval (x := (.tmp 9)) rfl, ha.eval (x := (.tmp 10)) rfl] <;> rfl) (bld_dev _ _ _ _)) rfl (At.box rfl rfl rfl (fun b6 => (tA rfl rfl (tA rfl rfl (tE (At.retC (At.ret2 (.inl rfl) rfl rfl rfl rfl (fun w hw => ?_))))))))
  have hgz := zeroD_good hn
  exact ⟨b6, ⟨(.slice A4 ((List.replicate N (0 : BitVec 64)).length) c5), mb3, fun _ => (0, .slice none 0 0)⟩, rfl, toDev (F := []) hgz (Rep.famNil (I := dI (zeroD N).ws (fun _ => (0, .slice none 0 0))) (dI_calm (wz_calm _)) hw |>.perm (rot3p)) rfl (by rw [show olds (zeroD N).ws = List.replicate N 0 from olds_wz N]) (by rw [mk_calm (ws := (zeroD N).ws) (wz_calm _)]) rfl⟩
theorem new_n (n : Int) (w : World) (hn : isSizeB n = true) (N : Nat) (hN : 8 * (N : Int) = n) : NewDev Tryz.prog 78 [.int .i64 n] (zeroD N) w := by
  subst hN; exact new_d N w hn
theorem word_k (p : Nat) (γ : Gh) (σ : Ds) (k : Nat) (wd : Wd) (w : World) (hk : σ.ws[k]? = some wd) (hd : (Dev p γ σ).holds w) :
    Upd Tryz.prog 85 [.pointer (some ⟨p, 0, none⟩), .int .i64 (8 * (k : Int))] (Dev p γ σ) (.tuple #[b64 (nowW wd), .int .i64 0]) (Dev p γ σ) w := by
 refine enterVc hd Tryz.func85 rfl Tryz.ntmps85 rfl ?_
 have hgd := Dev.good hd
 have hkl := (List.getElem?_eq_some_iff.1 hk).1
 have hpl := place_at hkl
 simp only [envOf]
 refine tR (tA rfl rfl (tA rfl rfl (tE (At.seq (tR (tM rfl rfl (tM rfl rfl (At.callK 0 rfl (fun w hw hr => place_k _ _ _ _ w hr) Tryz.call117 rfl rfl (tA rfl rfl (tE (tR (tM rfl rfl (tV (Val.bin rfl rfl rfl) rfl (tE ?_))))))))))))))
 refine At.cond rfl (fun h1 => ?_) (fun h1 => ?_)
 ·try simp only [hasB, isSizeB, sB] at h1
  omega
 ·try simp only [hasB, isSizeB, sB] at h1
  refine At.skipC (At.thenN (tR (tM rfl rfl (tM rfl rfl (At.callK 0 rfl (fun w hw hr => now_k _ _ _ _ _ w hk hr) Tryz.call116 rfl rfl (tA rfl rfl (tA rfl rfl (tE (At.retC (At.ret2 (.inl rfl) rfl rfl rfl rfl (fun w hw => ?_)))))))))))
  exact ⟨rfl, hw⟩
theorem arm_d (p : Nat) (γ : Gh) (σ : Ds) (m : Nat) (w : World) (hm : m ≤ 9223372036854775807) (hno : deadB σ = false) (hd : (Dev p γ σ).holds w) :
    DevU Tryz.prog 44 [.pointer (some ⟨p, 0, none⟩), .int .i64 (m : Int)] p γ σ (.int .i64 0) (armD σ m) w := by
 refine enterVc hd Tryz.func44 rfl Tryz.ntmps44 rfl ?_
 have hgd := Dev.good hd
 simp only [envOf]
 refine tR (tA rfl rfl (tE (At.seq (tR (tM rfl rfl (tV (Val.bin rfl rfl rfl) rfl (tE ?_)))))))
 refine At.cond rfl (fun h1 => ?_) (fun h1 => ?_)
 ·try simp only [hasB, isSizeB, sB] at h1
  omega
 ·try simp only [hasB, isSizeB, sB] at h1
  refine At.skipC (At.thenN (At.seq (tR (tM rfl rfl (At.callK 0 rfl (fun w hw hr => dead_k _ _ _ w hr) Tryz.call80 rfl rfl (tE ?_))))))
  refine At.cond rfl (fun h2 => ?_) (fun h2 => ?_)
  ·try simp only [hasB, isSizeB, sB] at h2
   rw [hno] at h2; cases h2
  ·try simp only [hasB, isSizeB, sB] at h2
   refine At.skipC (At.thenN (At.seq (At.openS 0 rfl ?_)))
   simp only [devL, List.cons_append, List.nil_append, ec0, ecS]
   refine At.region (tM rfl rfl (tM rfl rfl (tM rfl rfl (tV (Val.nilCheck rfl) rfl (tV (Val.field 3 rfl fo_111_3 rfl) rfl (At.store (i := 0) Tryz.sizeOf4 rfl rfl rfl rfl (by first | decide | simp) ?_))))))
   simp only [sc0, scS]
   refine tV (Val.nilCheck rfl) rfl (tV (Val.field 4 rfl fo_111_4 rfl) rfl (At.store (i := 0) Tryz.sizeOf3 rfl rfl rfl rfl (by first | decide | simp) ?_))
   simp only [sc0, scS]
   refine tE (tR (tA rfl rfl (tE (At.retC (At.ret1 (.inl rfl) rfl rfl rfl (fun w hw => ?_))))))
   exact ⟨γ, rfl, toDev (F := []) (armD_good hgd hm) (hw.drop (show List.Sublist [_, _, _, _] _ from (List.Sublist.refl _ |>.cons _ |>.cons_cons _ |>.cons_cons _ |>.cons_cons _ |>.cons_cons _))) rfl rfl rfl rfl⟩
theorem load_d (v : Value) (l : List UInt8) (w : World) (hv : RdB w v l) (hn : isSizeB (l.length : Int) = true) :
    NewDev Tryz.prog 43 [v] (loadD l) w := by
 refine enter (feet []) [] Tryz.func43 rfl Tryz.ntmps43 rfl ⟨by simp, by simp, by simp, Mod.refl _ _⟩ ?_
 have hnn := hn
 unfold isSizeB at hnn
 rw [decide_eq_true_eq] at hnn
 have hlz : (((olds (zeroD (l.length / 8)).ws).length : Nat) : Int) = ((l.length / 8 : Nat) : Int) := by rw [olds_length]; simp [zeroD, wz]
 have hf0 : fillW l 0 = olds (zeroD (l.length / 8)).ws := by rw [show olds (zeroD (l.length / 8)).ws = List.replicate (l.length / 8) 0 from olds_wz _]; unfold fillW; simp
 simp only [envOf]
 refine tR (tA rfl rfl (tA rfl rfl (tE (tR (tM rfl rfl (tV (Val.lenRd hv Tryz.underlying29 rfl) rfl (At.callND (fun w hw => new_n _ w hn (l.length / 8) (by omega)) Tryz.call78 rfl rfl (fun p1 y2 => (tM rfl rfl (tV (Val.extract rfl rfl) rfl (tV (Val.extract rfl rfl) rfl (tA rfl rfl (tA rfl rfl (tE (At.seq (tR (tM rfl rfl (tV (Val.bin rfl rfl rfl) rfl (tE ?_)))))))))))))))))))
 refine At.cond rfl (fun h3 => ?_) (fun h3 => ?_)
 ·try simp only [hasB, isSizeB, sB] at h3
  simp at h3
 ·try simp only [hasB, isSizeB, sB] at h3
  refine At.skipC (At.thenN (At.seq (At.seq (At.openS 0 rfl ?_))))
  simp only [devL, List.cons_append, List.nil_append, ec0, ecS]
  refine At.region (tM rfl rfl (tV (Val.nilCheck rfl) rfl (tV (Val.field 0 rfl fo_111_0 rfl) rfl (tV (Val.load (i := 0) Tryz.isAgg98 rfl rfl rfl) rfl (tV (Val.lenRow (i := 1) Tryz.underlying98 rfl rfl) rfl (tM rfl rfl (tE (At.block ?_))))))))
  skip
  refine At.loop (σ := Nat) (fun k => k ≤ l.length / 8) (fun k => [(0, v), (4, .pointer (some ⟨p1, 0, none⟩)), (20, .int .i64 ((l.length / 8 : Nat) : Int)), (21, .int .i64 (k : Int))]) (fun k => [blk p1 tDv [y2.vo, .map (some y2.mb), .int .i64 0, .bool false, .int .i64 0], wrow tW y2.vo (fillW l k), mapR y2.mb (mk (zeroD (l.length / 8)).ws y2.g), fam (dI (zeroD (l.length / 8)).ws y2.g), factR (Dgood (zeroD (l.length / 8)))]) (fun k => l.length / 8 - k) 0 (Nat.zero_le _) (Sub.cons rfl (Sub.cons rfl (Sub.cons (congrArg (fun z => some (Value.int IntKind.i64 z)) hlz) (Sub.cons rfl Sub.nil)))) (by rw [show fillW l 0 = olds (zeroD (l.length / 8)).ws from hf0]; exact List.Perm.refl _) ?_
  intro k hs
  have hkl8 : 8 * k ≤ l.length := by omega
  have hfl := fillW_length hs
  refine tR (tV (Val.bin rfl rfl rfl) rfl (tE (At.seq ?_)))
  refine At.cond rfl (fun h4 => ?_) (fun h4 => ?_)
  ·try simp only [hasB, isSizeB, sB] at h4
   have hk : k < l.length / 8 := by omega
   have hk8 : 8 * k + 8 ≤ l.length := by omega
   refine At.skipC (At.thenN (At.seq (At.block (tR (tM rfl rfl (tA rfl rfl (tE (At.tail 11 rfl (by decide +kernel) ?_))))))))
   simp only [List.take_succ_cons, List.take_zero, List.drop_succ_cons, List.drop_zero]
   refine qM rfl rfl (qV (Val.nilCheck rfl) rfl (qV (Val.field 0 rfl fo_111_0 rfl) rfl (qV (Val.load (i := 0) Tryz.isAgg98 rfl rfl rfl) rfl (qM rfl rfl (qM rfl rfl (qM rfl rfl (qV (Val.mulI rfl rfl (by omega) (by omega)) rfl ?_)))))))
   rw [show (k : Int) * 8 = ((8 * k : Nat) : Int) from by omega]
   refine QAt.cutB (8 * k) (l.length) hv Tryz.underlying29 Tryz.sizeOf5 rfl ⟨_, _, rfl, by omega, by omega⟩ rfl (by omega) (by omega) rfl rfl (fun v5 hv6 => ?_)
   refine QAt.callP (fun w hw => wordOf_p _ _ w (hv6.mod hw.modF) (by rw [List.length_take, List.length_drop]; omega)) Tryz.call79 rfl rfl (qV (Val.indexRow (i := 1) k (by omega) Tryz.underlying98 Tryz.sizeOf43 rfl rfl rfl (by omega) (by omega)) rfl (QAt.fin ?_))
   rw [show wdA ((l.drop (8 * k)).take (l.length - 8 * k)) 0 = wdA l (8 * k) from by rw [List.take_of_length_le (by rw [List.length_drop]; omega), wdA_drop]]
   refine At.storeRow (i := 1) Tryz.sizeOf43 rfl rfl rfl rfl (by rw [List.length_map]; omega) ?_
   simp only [sc0, scS]
   rw [← List.map_set, fillW_step hk, show (fillW l k).length = (fillW l (k + 1)).length from by rw [hfl, fillW_length (by omega)]]
   refine At.nil (At.blkN (At.thenN (At.region ?_)))
   first | refine tV (Val.addI rfl rfl (by omega) (by omega)) rfl ?_ | refine tV (Val.bin rfl rfl rfl) rfl ?_
   refine tM rfl rfl (tE ?_)
   exact At.again (k + 1) (show k + 1 ≤ _ by omega) (by omega) (Sub.cons rfl (Sub.cons rfl (Sub.cons rfl (Sub.cons (congrArg (fun z => some (Value.int IntKind.i64 z)) (by omega)) Sub.nil)))) (List.Perm.refl _)
  ·try simp only [hasB, isSizeB, sB] at h4
   obtain rfl : k = l.length / 8 := by omega
   refine At.exitC (At.thenX (At.thenX (At.blkX (At.thenN (tR (tM rfl rfl (tA rfl rfl (tA rfl rfl (tE (At.retC (At.ret2 (.inl rfl) rfl rfl rfl rfl (fun w hw => ?_))))))))))))
   exact ⟨p1, ⟨y2.vo, y2.mb, y2.g⟩, rfl, toDev (F := []) (loadD_good hn) (hw.drop (show List.Sublist [_, _, _, _] _ from (List.Sublist.refl _ |>.cons _ |>.cons_cons _ |>.cons_cons _ |>.cons_cons _ |>.cons_cons _))) rfl (by rw [fillW_all]) (by rw [mk_calm (ws := (zeroD (l.length / 8)).ws) (wz_calm _)]; exact congrArg (mapR _) (mk_calm (ws := (loadD l).ws) (loadWs_calm l)).symm) (congrArg fam (dI_calm' (ws := (zeroD (l.length / 8)).ws) (ws' := (loadD l).ws) (wz_calm _) (loadWs_calm l)))⟩
end Go.Proofs.YtfchinibjhcejaaGreatDoor
namespace Go.Proofs.YtfchinibjhcejaaGreatDoor
open Go Go.Wk
def pushW (w : Wd) (x : BitVec 64) : Wd := { w with news := w.news ++ [x] }
def markW (w : Wd) : Wd := { w with mark := w.news.length }
def setD (σ : Ds) (k : Nat) (w : Wd) : Ds := { σ with ws := σ.ws.set k w }
theorem mem_set_or {ws : List Wd} {k : Nat} {a w : Wd} (h : w ∈ ws.set k a) : w = a ∨ w ∈ ws := by
  rcases List.mem_or_eq_of_mem_set h with h | h
  · exact .inr h
  · exact .inl h
theorem push_good {σ : Ds} {k : Nat} {wd : Wd} {x : BitVec 64} (hg : Dgood σ) (hk : σ.ws[k]? = some wd) (hs : σ.steps + 1 ≤ 1099511627776) : Dgood (setD (stepD σ) k (pushW wd x)) := by
  have h1 := dgood_step hg hs
  have hw := hg.word wd (List.mem_of_getElem? hk)
  refine ⟨by simpa [setD] using h1.pos, by simpa [setD] using h1.len, by simpa [setD] using h1.lines, h1.steps, h1.left, fun w hm => ?_⟩
  rcases mem_set_or hm with rfl | h2
  · simp only [pushW, setD, stepD, List.length_append, List.length_singleton]; omega
  · exact h1.word w h2
theorem mark_good {σ : Ds} {k : Nat} {wd : Wd} (hg : Dgood σ) (hk : σ.ws[k]? = some wd) : Dgood (setD σ k (markW wd)) := by
  have hw := hg.word wd (List.mem_of_getElem? hk)
  refine ⟨by simpa [setD] using hg.pos, by simpa [setD] using hg.len, by simpa [setD] using hg.lines, hg.steps, hg.left, fun w hm => ?_⟩
  rcases mem_set_or hm with rfl | h2
  · exact ⟨Nat.le_refl _, hw.2⟩
  · exact hg.word w h2
def flushK (σ : Ds) (f : Nat) : Nat → Ds
  | 0 => σ
  | j + 1 => match (flushK σ f j).ws[f + j]? with | some w => setD (flushK σ f j) (f + j) (markW w) | none => flushK σ f j
theorem flushK_rest (σ : Ds) (f : Nat) : ∀ j, (flushK σ f j).steps = σ.steps ∧ (flushK σ f j).armed = σ.armed ∧ (flushK σ f j).left = σ.left ∧ (flushK σ f j).ws.length = σ.ws.length ∧ olds (flushK σ f j).ws = olds σ.ws
  | 0 => ⟨rfl, rfl, rfl, rfl, rfl⟩
  | j + 1 => by
    obtain ⟨h1, h2, h3, h4, h5⟩ := flushK_rest σ f j
    unfold flushK
    split
    · rename_i w hw
      exact ⟨h1, h2, h3, by simpa [setD] using h4, (olds_same (wd' := markW w) hw rfl).trans h5⟩
    · exact ⟨h1, h2, h3, h4, h5⟩
theorem flushK_good {σ : Ds} (f : Nat) (hg : Dgood σ) : ∀ j, Dgood (flushK σ f j)
  | 0 => hg
  | j + 1 => by
    unfold flushK
    split
    · rename_i w hw; exact mark_good (flushK_good f hg j) hw
    · exact flushK_good f hg j
theorem flushK_succ {σ : Ds} {f j : Nat} {w : Wd} (h : (flushK σ f j).ws[f + j]? = some w) : flushK σ f (j + 1) = setD (flushK σ f j) (f + j) (markW w) := by
  conv => lhs; unfold flushK
  rw [h]
theorem set_get {ws : List Wd} {k : Nat} {w : Wd} (h : ws[k]? = some w) : ws.set k w = ws := set_same h
theorem flushK_nil {σ : Ds} {f j : Nat} {w : Wd} (hg : Dgood σ) (h : (flushK σ f j).ws[f + j]? = some w) (hn : w.news = []) : flushK σ f (j + 1) = flushK σ f j := by
  rw [flushK_succ h]
  have hw := ((flushK_good f hg j).word w (List.mem_of_getElem? h)).1
  have : markW w = w := by cases w; simp only [markW] at *; subst hn; simp at hw ⊢; omega
  unfold setD
  rw [this, set_get h]
theorem store_d (p : Nat) (γ : Gh) (σ : Ds) (k : Nat) (wd : Wd) (x : BitVec 64) (w : World) (hk : σ.ws[k]? = some wd) (hs : σ.steps + 1 ≤ 1099511627776) (hno : deadB σ = false) (hd : (Dev p γ σ).holds w) :
    DevU Tryz.prog 87 [.pointer (some ⟨p, 0, none⟩), .int .i64 (8 * (k : Int)), b64 x] p γ σ (.int .i64 0) (setD (stepD σ) k (pushW wd x)) w := by
 refine enterVc hd Tryz.func87 rfl Tryz.ntmps87 rfl ?_
 have hgd := Dev.good hd
 have hkl := (List.getElem?_eq_some_iff.1 hk).1
 have hk1 : (stepD σ).ws[k]? = some wd := hk
 have hkl1 : k < (stepD σ).ws.length := hkl
 have hwd := hgd.word wd (List.mem_of_getElem? hk)
 have hpn : (pushW wd x).news ≠ [] := by simp [pushW]
 simp only [envOf]
 refine tR (tA rfl rfl (tE (At.seq (tR (tM rfl rfl (tM rfl rfl (At.callK 0 rfl (fun w hw hr => (place_at (σ := σ) hkl) ▸ place_k _ _ _ _ w hr) Tryz.call117 rfl rfl (tA rfl rfl (tE (tR (tM rfl rfl (tV (Val.bin rfl rfl rfl) rfl (tE (At.condF rfl (At.skipC (At.thenN (At.seq (tR (tM rfl rfl (At.callD 0 rfl (fun w hw hr => step_d _ _ _ w hs hno hr) Tryz.call118 rfl rfl (fun y1 => ?_)))))))))))))))))))))
 simp only [sc0, scS]
 refine tA rfl rfl (tE (tR (tM rfl rfl (tV (Val.bin rfl rfl rfl) rfl (tE (At.condF rfl (At.skipC (At.thenN (At.seq (At.openS 0 rfl ?_))))))))))
 simp only [devL, List.cons_append, List.nil_append, ec0, ecS]
 refine At.region (tM rfl rfl (tV (Val.nilCheck rfl) rfl (tV (Val.field 1 rfl fo_111_1 rfl) rfl (tV (Val.load (i := 0) Tryz.isAgg109 rfl rfl rfl) rfl (tM rfl rfl (tV (Val.look (i := 2) Tryz.underlying109 Tryz.underlying3 Tryz.zeroValue113 rfl rfl rfl) rfl ?_))))))
 by_cases hn : wd.news = []
 ·rw [mk_at, mkN_none hk1 hn]
  refine tA rfl rfl (tE (At.seq (tR (tM rfl rfl (tV (Val.eqNil (t := 113) (by kernel_rfl) rfl) rfl (tE (At.condT rfl (tR ?_))))))))
  refine tV (Val.build (fun a ha => by simp only [List.map_toArray, List.map_cons, List.map_nil] <;> rfl) (bld_115_)) rfl (At.box rfl rfl rfl (fun b2 => (tA rfl rfl (tE (At.region (tM rfl rfl (tV (Val.nilCheck rfl) rfl (tV (Val.field 1 rfl fo_111_1 rfl) rfl (tV (Val.load (i := 1) Tryz.isAgg109 rfl rfl rfl) rfl (tM rfl rfl (tM rfl rfl (At.mapSet (i := 3) Tryz.underlying109 Tryz.underlying3 rfl rfl rfl rfl (by rw [mk_at, mkN_none hk1 hn]) ?_))))))))))))
  simp only [sc0, scS]
  refine tE (At.seq (At.winNil tW ?_))
  have hwl : ([] : List Value).length = 0 := rfl
  refine At.region (tM rfl rfl (tM rfl rfl (tV (Val.nilCheck rfl) rfl (tV (Val.field 0 rfl fo_115_0 rfl) rfl (tV (Val.load (i := 1) Tryz.isAgg98 rfl rfl rfl) rfl (tM rfl rfl (At.buildSl (fun a ha => by simp only [List.map_toArray, List.map_cons, List.map_nil, ha.eval (x := (.tmp 42)) rfl]; try rfl) (bs_98_1 _ ) rfl (fun b3 => ?_))))))))
  refine At.appendWin1 (i := 1) (j := 0) (by_ := 8) Tryz.underlying98 info_43 rfl rfl rfl rfl rfl rfl rfl rfl rfl (by rw [hwl]; omega) (by rw [hwl]; omega) rfl (fun v4 => ?_)
  simp only [sc0, scS]
  refine At.drop 0 ?_
  simp only [ec0, ecS]
  refine tV (Val.nilCheck rfl) rfl (tV (Val.field 0 rfl fo_115_0 rfl) rfl (At.winOne 0 rfl (fun ho => (At.store (i := 1) Tryz.sizeOf98 rfl rfl ho rfl (by simp) ?_))))
  simp only [sc0, scS]
  refine At.nil (At.bring 5 rfl ?_)
  simp only [ec0, ecS]
  refine At.bring 1 rfl ?_
  simp only [ec0, ecS]
  refine At.bring 2 rfl ?_
  simp only [ec0, ecS]
  rw [show ([] : List Value) ++ [b64 x] = (pushW wd x).news.map b64 from by simp [pushW, hn]]
  refine At.bornD0 (wd := pushW wd x) (by have := hwd.1; rw [hn] at this; simpa [pushW] using this) hk1 hn hpn (At.rot3 (At.thenN (tR (tA rfl rfl (tE (At.retC (At.ret1 (.inl rfl) rfl rfl rfl (fun w hw => ?_))))))))
  exact ⟨⟨y1.vo, y1.mb, upd y1.g k (b2, v4)⟩, rfl, toDev (F := []) (push_good hgd hk hs) (hw.drop (show List.Sublist [_, _, _, _] _ from (List.Sublist.refl _ |>.cons _ |>.cons_cons _ |>.cons_cons _ |>.cons_cons _ |>.cons_cons _))) rfl (congrArg (wrow tW y1.vo) (olds_same (ws := (stepD σ).ws) (wd' := pushW wd x) hk1 rfl).symm) (congrArg (mapR y1.mb) (mk_push hkl1 hpn).symm) rfl⟩
 ·rw [mk_at, mkN_some hk1 hn]
  refine tA rfl rfl (tE (At.seq (At.seq (At.focusD 3 rfl hk1 hn ?_))))
  simp only [ec0, ecS]
  refine At.region (tM rfl rfl (tV (Val.eqNil (t := 113) (by kernel_rfl) rfl) rfl (tE (At.condF rfl (At.skipC (At.thenN (At.seq ?_)))))))
  have hwl : (wd.news.map b64).length = wd.news.length := List.length_map ..
  refine At.region (tM rfl rfl (tM rfl rfl (tV (Val.nilCheck rfl) rfl (tV (Val.field 0 rfl fo_115_0 rfl) rfl (tV (Val.load (i := 0) Tryz.isAgg98 rfl rfl rfl) rfl (tM rfl rfl (At.buildSl (fun a ha => by simp only [List.map_toArray, List.map_cons, List.map_nil, ha.eval (x := (.tmp 42)) rfl]; try rfl) (bs_98_1 _ ) rfl (fun b5 => ?_))))))))
  refine At.appendWin1 (i := 2) (j := 0) (by_ := 8) Tryz.underlying98 info_43 rfl rfl rfl rfl rfl rfl rfl rfl rfl (by rw [hwl]; omega) (by rw [hwl]; omega) rfl (fun v6 => ?_)
  simp only [sc0, scS]
  refine At.drop 0 ?_
  simp only [ec0, ecS]
  refine tV (Val.nilCheck rfl) rfl (tV (Val.field 0 rfl fo_115_0 rfl) rfl (At.winOne 1 rfl (fun ho => (At.store (i := 0) Tryz.sizeOf98 rfl rfl ho rfl (by simp) ?_))))
  simp only [sc0, scS]
  refine At.nil (At.bring 2 rfl ?_)
  simp only [ec0, ecS]
  refine At.bring 2 rfl ?_
  simp only [ec0, ecS]
  refine At.bring 2 rfl ?_
  simp only [ec0, ecS]
  rw [show wd.news.map b64 ++ [b64 x] = (pushW wd x).news.map b64 from by simp [pushW]]
  refine At.unfocusD (wd := pushW wd x) hkl1 hpn (At.rot3 (At.thenN (tR (tA rfl rfl (tE (At.retC (At.ret1 (.inl rfl) rfl rfl rfl (fun w hw => ?_))))))))
  exact ⟨⟨y1.vo, y1.mb, upd y1.g k ((y1.g k).1, v6)⟩, rfl, toDev (F := []) (push_good hgd hk hs) (hw.drop (show List.Sublist [_, _, _, _] _ from (List.Sublist.refl _ |>.cons _ |>.cons_cons _ |>.cons_cons _ |>.cons_cons _ |>.cons_cons _))) rfl (congrArg (wrow tW y1.vo) (olds_same (ws := (stepD σ).ws) (wd' := pushW wd x) hk1 rfl).symm) (congrArg (mapR y1.mb) (mk_keep hk1 hn hpn).symm) rfl⟩
theorem store_0 (p : Nat) (γ : Gh) (σ : Ds) (a : Int) (x : BitVec 64) (w : World) (ha : placeE σ a = 0) (hno : deadB σ = true) (hd : (Dev p γ σ).holds w) :
    Upd Tryz.prog 87 [.pointer (some ⟨p, 0, none⟩), .int .i64 a, b64 x] (Dev p γ σ) (.int .i64 13) (Dev p γ σ) w := by
 refine enterVc hd Tryz.func87 rfl Tryz.ntmps87 rfl ?_
 have hgd := Dev.good hd
 simp only [envOf]
 refine tR (tA rfl rfl (tE (At.seq (tR (tM rfl rfl (tM rfl rfl (At.callK 0 rfl (fun w hw hr => place_k _ _ _ _ w hr) Tryz.call117 rfl rfl (tA rfl rfl (tE (tR (tM rfl rfl (tV (Val.bin rfl rfl rfl) rfl (tE ?_)))))))))))))
 refine At.cond rfl (fun h1 => ?_) (fun h1 => ?_)
 ·try simp only [hasB, isSizeB, sB] at h1
  omega
 ·try simp only [hasB, isSizeB, sB] at h1
  refine At.skipC (At.thenN (At.seq (tR (tM rfl rfl (At.callK 0 rfl (fun w hw hr => step_0 _ _ _ w hno hr) Tryz.call118 rfl rfl (tA rfl rfl (tE (tR (tM rfl rfl (tV (Val.bin rfl rfl rfl) rfl (tE (At.condT rfl (tR (tM rfl rfl (tA rfl rfl (tE (At.retC (At.thenR (At.ret1 (.inl rfl) rfl rfl rfl (fun w hw => ?_))))))))))))))))))))
  exact ⟨rfl, hw⟩
end Go.Proofs.YtfchinibjhcejaaGreatDoor
namespace Go.Proofs.YtfchinibjhcejaaGreatDoor
open Go Go.Wk
def fenceW (w : Wd) : Wd := if w.mark = 0 then w else ⟨(w.news[w.mark - 1]?).getD w.old, w.news.drop w.mark, 0⟩
def fenceD (σ : Ds) : Ds := { σ with ws := σ.ws.map fenceW }
theorem fenceW_calm {w : Wd} (h : w.mark = 0) : fenceW w = w := if_pos h
theorem fence_good {σ : Ds} (hg : Dgood σ) : Dgood (fenceD σ) :=
  ⟨by simpa [fenceD] using hg.pos, by simpa [fenceD] using hg.len, by simpa [fenceD] using hg.lines, hg.steps, hg.left, fun w hm => by
    obtain ⟨u, hu, rfl⟩ := List.mem_map.1 hm
    have := hg.word u hu
    unfold fenceW
    split
    · exact this
    · simp only [List.length_drop, fenceD]; omega⟩
def FInv (W ws : List Wd) (left : Int → Bool) : Prop := ws.length = W.length ∧ ∀ (k : Nat) w, W[k]? = some w → ws[k]? = some (if left (8 * (k : Int)) then w else fenceW w)
theorem finv_start {σ : Ds} (hg : Dgood σ) (g : Nat → Nat × Value) : FInv σ.ws σ.ws (fun k => (mk σ.ws g k).isSome) := ⟨rfl, fun k w hk => by
  rw [hk]
  congr 1
  show w = if (mk σ.ws g (8 * (k : Int))).isSome = true then w else fenceW w
  rw [mk_at]
  by_cases hn : w.news = []
  · rw [mkN_none hk hn]
    have := (hg.word w (List.mem_of_getElem? hk)).1
    rw [hn] at this
    exact (fenceW_calm (by simpa using this)).symm
  · rw [mkN_some hk hn]; rfl⟩
theorem finv_step {W ws : List Wd} {left left' : Int → Bool} {k : Nat} {wd : Wd} (h : FInv W ws left) (hl : left (8 * (k : Int)) = true) (hk : ws[k]? = some wd) (h1 : left' (8 * (k : Int)) = false) (h2 : ∀ q, q ≠ 8 * (k : Int) → left' q = left q) : FInv W (ws.set k (fenceW wd)) left' := ⟨by simpa using h.1, fun j w hj => by
  by_cases e : j = k
  · subst e
    have := h.2 j w hj
    rw [hl, if_pos rfl, hk] at this
    have := Option.some.inj this
    subst this
    rw [h1, if_neg (by simp), List.getElem?_set_self (List.getElem?_eq_some_iff.1 hk).1]
  · rw [List.getElem?_set_ne (Ne.symm e), h2 _ (by omega)]
    exact h.2 j w hj⟩
theorem finv_end {W ws : List Wd} {left : Int → Bool} (h : FInv W ws left) (hl : ∀ k, left k = false) : ws = W.map fenceW := by
  apply List.ext_getElem?
  intro j
  rw [List.getElem?_map]
  cases hj : W[j]? with
  | none => rw [List.getElem?_eq_none (by have := List.getElem?_eq_none_iff.1 hj; rw [h.1]; exact this)]; rfl
  | some w => rw [h.2 j w hj, hl, if_neg (by simp)]; rfl
theorem finv_word {W ws : List Wd} {left : Int → Bool} {k : Nat} {wd : Wd} (h : FInv W ws left) (hl : left (8 * (k : Int)) = true) (hk : ws[k]? = some wd) : W[k]? = some wd := by
  cases hj : W[k]? with
  | none =>
    have h1 := List.getElem?_eq_none_iff.1 hj
    have h2 := (List.getElem?_eq_some_iff.1 hk).1
    rw [h.1] at h2; omega
  | some w =>
    have := h.2 k w hj
    rw [hl, if_pos rfl, hk] at this
    exact this.symm
theorem flush_d (p : Nat) (γ : Gh) (σ : Ds) (a : Int) (f : Nat) (w : World) (h0 : 0 ≤ a) (hl : a < 8 * (σ.ws.length : Int)) (hf : 8 * (f : Int) = a - a % 64) (hs : σ.steps + 1 ≤ 1099511627776) (hno : deadB σ = false) (hd : (Dev p γ σ).holds w) :
    DevU Tryz.prog 119 [.pointer (some ⟨p, 0, none⟩), .int .i64 a] p γ σ (.int .i64 0) (flushK (stepD σ) f 8) w := by
 refine enterVc hd Tryz.func119 rfl Tryz.ntmps119 rfl ?_
 have hgd := Dev.good hd
 have hln := hgd.len
 have hll := hgd.lines
 have hg1 := dgood_step hgd hs
 have hsl : (stepD σ).ws.length = σ.ws.length := rfl
 have hf8 : f % 8 = 0 := by omega
 simp only [envOf]
 refine tR (tA rfl rfl (tE (At.seq (tR (tM rfl rfl (tM rfl rfl (At.callK 0 rfl (fun w hw hr => has_k _ _ _ _ _ w hr) Tryz.call115 rfl rfl (tV (Val.not rfl) rfl (tE ?_)))))))))
 refine At.cond rfl (fun h1 => ?_) (fun h1 => ?_)
 ·try simp only [hasB, isSizeB, sB] at h1
  omega
 ·try simp only [hasB, isSizeB, sB] at h1
  refine At.skipC (At.thenN (At.seq (tR (tM rfl rfl (At.callD 0 rfl (fun w hw hr => step_d _ _ _ w hs hno hr) Tryz.call118 rfl rfl (fun y2 => ?_))))))
  simp only [sc0, scS]
  refine tA rfl rfl (tE (tR (tM rfl rfl (tV (Val.bin rfl rfl rfl) rfl (tE (At.condF rfl (At.skipC (At.thenN (tR (tM rfl rfl (tM rfl rfl (tV (Val.remI rfl rfl (by omega) (by decide)) rfl (tV (Val.subI rfl rfl (by omega) (by omega)) rfl ?_)))))))))))))
  rw [← hf]
  refine tA rfl rfl (tE (At.seq (At.seq (At.openS 0 rfl ?_))))
  simp only [devL, List.cons_append, List.nil_append, ec0, ecS]
  refine At.region (tM rfl rfl (tA rfl rfl (tE (At.block ?_))))
  skip
  refine At.loop (σ := Nat) (fun j => j ≤ 8) (fun j => [(0, .pointer (some ⟨p, 0, none⟩)), (6, .int .i64 (8 * (f : Int))), (7, .int .i64 (8 * ((f + j : Nat) : Int)))]) (fun j => [blk p tDv [y2.vo, .map (some y2.mb), .int .i64 ((stepD σ).steps : Int), .bool (stepD σ).armed, .int .i64 ((stepD σ).left : Int)], wrow tW y2.vo (olds (stepD σ).ws), mapR y2.mb (mk (flushK (stepD σ) f j).ws y2.g), fam (dI (flushK (stepD σ) f j).ws y2.g), factR (Dgood (stepD σ))]) (fun j => 8 - j) 0 (Nat.zero_le _) (Sub.cons rfl (Sub.cons rfl (Sub.cons rfl Sub.nil))) (List.Perm.refl _) ?_
  intro j hs
  have hfr := flushK_rest (stepD σ) f j
  refine At.seq (tR (tM rfl rfl (tM rfl rfl ?_)))
  first | refine tV (Val.addI rfl rfl (by omega) (by omega)) rfl ?_ | refine tV (Val.bin rfl rfl rfl) rfl ?_
  refine tV (Val.bin rfl rfl rfl) rfl (tE ?_)
  refine At.cond rfl (fun h3 => ?_) (fun h3 => ?_)
  ·try simp only [hasB, isSizeB, sB] at h3
   have hj : j < 8 := by omega
   have hfj : f + j < (stepD σ).ws.length := by omega
   refine At.skipC (At.thenN (At.seq (At.block (tR (tM rfl rfl (tV (Val.nilCheck rfl) rfl (tV (Val.field 1 rfl fo_111_1 rfl) rfl (tV (Val.load (i := 0) Tryz.isAgg109 rfl rfl rfl) rfl (tM rfl rfl (tV (Val.look (i := 2) Tryz.underlying109 Tryz.underlying3 Tryz.zeroValue113 rfl rfl rfl) rfl ?_))))))))))
   obtain ⟨wd, hkw⟩ : ∃ wd, (flushK (stepD σ) f j).ws[f + j]? = some wd := ⟨_, List.getElem?_eq_getElem (by rw [hfr.2.2.2.1]; exact hfj)⟩
   by_cases hn : wd.news = []
   ·rw [mk_at, mkN_none hkw hn]
    refine tA rfl rfl (tE (tR (tM rfl rfl (tV (Val.neNil (t := 113) (by kernel_rfl) rfl) rfl (tE (At.condF rfl (At.skipC (At.blkN (At.thenN (At.region (tM rfl rfl ?_)))))))))))
    first | refine tV (Val.addI rfl rfl (by omega) (by omega)) rfl ?_ | refine tV (Val.bin rfl rfl rfl) rfl ?_
    refine tA rfl rfl (tE ?_)
    exact At.again (j + 1) (show j + 1 ≤ 8 by omega) (by omega) (Sub.cons rfl (Sub.cons rfl (Sub.cons (congrArg (fun z => some (Value.int IntKind.i64 z)) (by omega)) Sub.nil))) (by rw [flushK_nil hg1 hkw hn])
   ·rw [mk_at, mkN_some hkw hn]
    refine tA rfl rfl (tE (tR (tM rfl rfl (tV (Val.neNil (t := 113) (by kernel_rfl) rfl) rfl (tE (At.condT rfl (At.focusD 3 rfl hkw hn ?_)))))))
    simp only [ec0, ecS]
    refine At.region (tM rfl rfl (tM rfl rfl (tV (Val.nilCheck rfl) rfl (tV (Val.field 0 rfl fo_115_0 rfl) rfl (tV (Val.load (i := 0) Tryz.isAgg98 rfl rfl rfl) rfl (tV (Val.lenWin (i := 1) rfl Tryz.underlying98 rfl) rfl (tV (Val.nilCheck rfl) rfl (tV (Val.field 1 rfl fo_115_1 rfl) rfl (At.store (i := 0) Tryz.sizeOf3 rfl rfl rfl rfl (by first | decide | simp) ?_)))))))))
    simp only [sc0, scS]
    refine At.nil ?_
    rw [List.length_map]
    refine At.unfocusD (wd := markW wd) (List.getElem?_eq_some_iff.1 hkw).1 hn ?_
    refine At.rot3 ?_
    rw [← mk_keep (v' := (y2.g (f + j)).2) (wd' := markW wd) hkw hn hn, show upd y2.g (f + j) ((y2.g (f + j)).1, (y2.g (f + j)).2) = y2.g from upd_same _ _, show (flushK (stepD σ) f j).ws.set (f + j) (markW wd) = (flushK (stepD σ) f (j + 1)).ws from by rw [flushK_succ hkw]; rfl]
    refine At.blkN (At.thenN (At.region (tM rfl rfl ?_)))
    first | refine tV (Val.addI rfl rfl (by omega) (by omega)) rfl ?_ | refine tV (Val.bin rfl rfl rfl) rfl ?_
    refine tA rfl rfl (tE ?_)
    exact At.again (j + 1) (show j + 1 ≤ 8 by omega) (by omega) (Sub.cons rfl (Sub.cons rfl (Sub.cons (congrArg (fun z => some (Value.int IntKind.i64 z)) (by omega)) Sub.nil))) (List.Perm.refl _)
  ·try simp only [hasB, isSizeB, sB] at h3
   obtain rfl : j = 8 := by omega
   refine At.exitC (At.thenX (At.thenX (At.blkX (At.thenN (tR (tA rfl rfl (tE (At.retC (At.ret1 (.inl rfl) rfl rfl rfl (fun w hw => ?_))))))))))
   obtain ⟨e1, e2, e3, _, e5⟩ := flushK_rest (stepD σ) f 8
   exact ⟨⟨y2.vo, y2.mb, y2.g⟩, rfl, toDev (F := []) (flushK_good f hg1 8) (hw.drop (show List.Sublist [_, _, _, _] _ from (List.Sublist.refl _ |>.cons _ |>.cons_cons _ |>.cons_cons _ |>.cons_cons _ |>.cons_cons _))) (by rw [e1, e2, e3]) (by rw [e5]) rfl rfl⟩
theorem flush_0 (p : Nat) (γ : Gh) (σ : Ds) (a : Int) (w : World) (h0 : 0 ≤ a) (hl : a < 8 * (σ.ws.length : Int)) (hno : deadB σ = true) (hd : (Dev p γ σ).holds w) :
    Upd Tryz.prog 119 [.pointer (some ⟨p, 0, none⟩), .int .i64 a] (Dev p γ σ) (.int .i64 13) (Dev p γ σ) w := by
 refine enterVc hd Tryz.func119 rfl Tryz.ntmps119 rfl ?_
 have hgd := Dev.good hd
 simp only [envOf]
 refine tR (tA rfl rfl (tE (At.seq (tR (tM rfl rfl (tM rfl rfl (At.callK 0 rfl (fun w hw hr => has_k _ _ _ _ _ w hr) Tryz.call115 rfl rfl (tV (Val.not rfl) rfl (tE ?_)))))))))
 refine At.cond rfl (fun h1 => ?_) (fun h1 => ?_)
 ·try simp only [hasB, isSizeB, sB] at h1
  omega
 ·try simp only [hasB, isSizeB, sB] at h1
  refine At.skipC (At.thenN (At.seq (tR (tM rfl rfl (At.callK 0 rfl (fun w hw hr => step_0 _ _ _ w hno hr) Tryz.call118 rfl rfl (tA rfl rfl (tE (tR (tM rfl rfl (tV (Val.bin rfl rfl rfl) rfl (tE (At.condT rfl (tR (tM rfl rfl (tA rfl rfl (tE (At.retC (At.thenR (At.ret1 (.inl rfl) rfl rfl rfl (fun w hw => ?_))))))))))))))))))))
  exact ⟨rfl, hw⟩
end Go.Proofs.YtfchinibjhcejaaGreatDoor
