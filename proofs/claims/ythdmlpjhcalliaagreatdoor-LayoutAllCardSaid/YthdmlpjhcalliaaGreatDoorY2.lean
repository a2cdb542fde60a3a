/- Parts of the proof, joined: see the law's text. -/
import Derived.Test.YthdmlpjhcalliaaGreatDoorY1
import Derived.ChangeSlices
import Derived.Laws.MakeOwn
import Derived.Laws.OwnMore
import Derived.OrdersHeld
import Derived.Maps.RangeRun
import Derived.ArgAppend
import Derived.Test.YthdmlpjhcalliaaGreatDoorProg
set_option linter.unusedVariables false
set_option linter.unusedSimpArgs false
namespace Go.Wk
open Go Go.ChangeShapes Go.WideShapes Go.ChangeAt Go.RowKit
section
variable {H : Type} {enc : TypeId × Value → H} {P : Program} {W : World} {r : Reach} {base b0 : Nat} {sp : Nat → Bool} {held : Bool}
theorem arg_slice {t e : TypeId} {v : Value} (hu : P.underlying t = some (.slice e)) (h : Value.okWide P W r base t v) : v = .slice none 0 0 ∨ ∃ b o n c, v = .slice (some ⟨b, o, none⟩) n c ∧ n ≤ c := by
  unfold Value.okWide at h
  rw [hu] at h
  unfold Cell.okWide at h
  rw [hu] at h
  unfold Cell.ok at h
  rw [hu] at h
  cases v <;> simp at h
  rename_i A n c
  cases A with
  | none =>
    left
    cases n <;> cases c <;> simp at h ⊢
  | some a =>
    right
    obtain ⟨h1, _, h2⟩ := h
    obtain ⟨b, o, s⟩ := a
    have : s = none := h2.2.1
    subst this
    exact ⟨b, o, n, c, rfl, h1⟩
end
end Go.Wk
namespace Go.Wk
open Go
def okc (c : UInt8) : Bool := !(c == 0) && !(c == 47)
def validB (s : ByteArray) : Bool := !(s.data.toList.isEmpty) && decide (s.size ≤ 28) && !(s.data.toList == [46]) && !(s.data.toList == [46, 46]) && s.data.toList.all okc
theorem size_len (s : ByteArray) : s.data.toList.length = s.size := Array.length_toList
theorem valid_empty {s : ByteArray} (h : ((s.size : Int) == 0) = true) : validB s = false := by
  have h0 : s.size = 0 := by simpa using h
  have : s.data.toList = [] := List.eq_nil_of_length_eq_zero (by rw [size_len]; exact h0)
  simp [validB, this]
theorem valid_emptyL {s : ByteArray} (h : (s.toList == (ByteArray.mk #[]).toList) = true) : validB s = false := by
  rw [ByteArray.toList_eq, ByteArray.toList_eq] at h
  simp at h
  simp [validB, h]
theorem valid_long {s : ByteArray} (h : decide ((s.size : Int) > 28) = true) : validB s = false := by
  have h0 : ¬ s.size ≤ 28 := by simp at h; omega
  simp [validB, h0]
theorem valid_dot {s : ByteArray} (h : (s.toList == (ByteArray.mk #[46]).toList) = true) : validB s = false := by
  rw [ByteArray.toList_eq, ByteArray.toList_eq] at h
  simp at h
  simp [validB, h]
theorem valid_dots {s : ByteArray} (h : (s.toList == (ByteArray.mk #[46, 46]).toList) = true) : validB s = false := by
  rw [ByteArray.toList_eq, ByteArray.toList_eq] at h
  simp at h
  simp [validB, h]
theorem valid_bad {s : ByteArray} {k : Nat} {c : UInt8} (h : s.data.toList[k]? = some c) (hc : okc c = false) : validB s = false := by
  have : s.data.toList.all okc = false := by
    rw [List.all_eq_false]
    exact ⟨c, List.mem_of_getElem? h, by simp [hc]⟩
  simp [validB, this]
theorem valid_all {s : ByteArray} (h1 : ((s.size : Int) == 0) = false) (h2 : decide ((s.size : Int) > 28) = false) (h3 : (s.toList == (ByteArray.mk #[46]).toList) = false) (h4 : (s.toList == (ByteArray.mk #[46, 46]).toList) = false)
    (h5 : s.data.toList.all okc = true) : validB s = true := by
  rw [ByteArray.toList_eq, ByteArray.toList_eq] at h3 h4
  have e1 : s.data.toList.isEmpty = false := by
    rw [Bool.eq_false_iff]
    intro h
    have : s.data.toList = [] := by simpa using h
    have := congrArg List.length this
    rw [size_len] at this
    simp at this
    simp [this] at h1
  have e2 : s.size ≤ 28 := by simp at h2; omega
  have e3 : (s.data.toList == [46]) = false := h3
  have e4 : (s.data.toList == [46, 46]) = false := h4
  simp only [validB, e1, e2, e3, e4, h5]; rfl
theorem notEmpty_of {s : ByteArray} (h : (s.toList == (ByteArray.mk #[]).toList) = false) : ((s.size : Int) == 0) = false := by
  rw [Bool.eq_false_iff] at h ⊢
  intro h0
  apply h
  have h0 : s.size = 0 := by simpa using h0
  have : s.data.toList = [] := List.eq_nil_of_length_eq_zero (by rw [size_len]; exact h0)
  rw [ByteArray.toList_eq, ByteArray.toList_eq, this]; rfl
theorem u8eq (c d : UInt8) : ((c.toNat : Int) == (d.toNat : Int)) = (c == d) := by
  rw [Bool.eq_iff_iff]
  simp only [beq_iff_eq]
  constructor
  · intro h; exact UInt8.toNat_inj.1 (by omega)
  · intro h; rw [h]
theorem okc_0 {c : UInt8} (h : ((c.toNat : Int) == 0) = true) : okc c = false := by
  have := u8eq c 0
  simp only [okc, ← this]
  rw [show (((0 : UInt8).toNat : Nat) : Int) = 0 from rfl, h]; rfl
theorem okc_47 {c : UInt8} (h : ((c.toNat : Int) == 47) = true) : okc c = false := by
  have := u8eq c 47
  simp only [okc, ← this]
  rw [show (((47 : UInt8).toNat : Nat) : Int) = 47 from rfl, h]; simp
theorem okc_yes {c : UInt8} (h : ((c.toNat : Int) == 0) = false) (h' : ((c.toNat : Int) == 47) = false) : okc c = true := by
  have e0 := u8eq c 0
  have e1 := u8eq c 47
  rw [show (((0 : UInt8).toNat : Nat) : Int) = 0 from rfl, h] at e0
  rw [show (((47 : UInt8).toNat : Nat) : Int) = 47 from rfl, h'] at e1
  simp only [okc, ← e0, ← e1]; rfl
theorem all_take_succ {l : List UInt8} {k : Nat} {c : UInt8} (h : l[k]? = some c) (ha : (l.take k).all okc = true) (hc : okc c = true) : (l.take (k + 1)).all okc = true := by
  obtain ⟨hk, rfl⟩ := List.getElem?_eq_some_iff.1 h
  rw [List.take_succ_eq_append_getElem hk, List.all_append, ha]
  simp [hc]
end Go.Wk
namespace Go.Wk
open Go
section
variable {P : Program} {Γ : Ctx} {E : Env} {H : List Res} {ops : Array Oper} {Q : Exit → Act → World → Prop} {rest : List Oper}
  {d : Nat} {dst : Option Tmp} {g : Option (Nat × Bool)} {ty : TypeId} {pos : String} {after : Array Edge} {x y z : Operand} {v u : Value} {ψ : Act → Prop}
theorem Val.addI {t t' : TypeId} {a b : Int} (hx : ev E x = some (.int .i64 a)) (hy : ev E y = some (.int .i64 b)) (h0 : -9223372036854775808 ≤ a + b) (h1 : a + b ≤ 9223372036854775807) :
    Val P Γ E H ⟨dst, .binOp .add t x y t', ty, pos, after, g⟩ (.int .i64 (a + b)) := by
  have := Val.bin (P := P) (Γ := Γ) (H := H) (dst := dst) (g := g) (ty := ty) (pos := pos) (after := after) (t := t) (t' := t') (op := .add) hx hy rfl
  rwa [wrap_i64 h0 h1] at this
theorem Val.subI {t t' : TypeId} {a b : Int} (hx : ev E x = some (.int .i64 a)) (hy : ev E y = some (.int .i64 b)) (h0 : -9223372036854775808 ≤ a - b) (h1 : a - b ≤ 9223372036854775807) :
    Val P Γ E H ⟨dst, .binOp .sub t x y t', ty, pos, after, g⟩ (.int .i64 (a - b)) := by
  have := Val.bin (P := P) (Γ := Γ) (H := H) (dst := dst) (g := g) (ty := ty) (pos := pos) (after := after) (t := t) (t' := t') (op := .sub) hx hy rfl
  rwa [wrap_i64 h0 h1] at this
theorem Val.mulI {t t' : TypeId} {a b : Int} (hx : ev E x = some (.int .i64 a)) (hy : ev E y = some (.int .i64 b)) (h0 : -9223372036854775808 ≤ a * b) (h1 : a * b ≤ 9223372036854775807) :
    Val P Γ E H ⟨dst, .binOp .mul t x y t', ty, pos, after, g⟩ (.int .i64 (a * b)) := by
  have := Val.bin (P := P) (Γ := Γ) (H := H) (dst := dst) (g := g) (ty := ty) (pos := pos) (after := after) (t := t) (t' := t') (op := .mul) hx hy rfl
  rwa [wrap_i64 h0 h1] at this
theorem Val.remI {t t' : TypeId} {k : IntKind} {a b : Int} (hx : ev E x = some (.int k a)) (hy : ev E y = some (.int k b)) (ha : 0 ≤ a) (hb : 0 < b) :
    Val P Γ E H ⟨dst, .binOp .rem t x y t', ty, pos, after, g⟩ (.int k (a % b)) := by
  have := Val.rem (P := P) (Γ := Γ) (H := H) (dst := dst) (g := g) (ty := ty) (pos := pos) (after := after) (t := t) (t' := t') hx hy (by omega)
  rwa [Int.tmod_eq_emod_of_nonneg ha] at this
theorem Val.toI {s t : TypeId} {ds : TypeDesc} {k' : IntKind} {b : Int} (hs : P.underlying s = some ds) (ht : P.underlying t = some (.int .i64)) (hx : ev E x = some (.int k' b)) (h0 : -9223372036854775808 ≤ b) (h1 : b ≤ 9223372036854775807) :
    Val P Γ E H ⟨dst, .convert s t x, ty, pos, after, g⟩ (.int .i64 b) := by
  have := Val.conv (P := P) (Γ := Γ) (H := H) (dst := dst) (g := g) (ty := ty) (pos := pos) (after := after) hs ht hx
  rwa [wrap_i64 h0 h1] at this
theorem Val.toU {s t : TypeId} {ds : TypeDesc} {k' : IntKind} {b : Int} (hs : P.underlying s = some ds) (ht : P.underlying t = some (.int .u64)) (hx : ev E x = some (.int k' b)) (h0 : 0 ≤ b) (h1 : b < 18446744073709551616) :
    Val P Γ E H ⟨dst, .convert s t x, ty, pos, after, g⟩ (.int .u64 b) := by
  have := Val.conv (P := P) (Γ := Γ) (H := H) (dst := dst) (g := g) (ty := ty) (pos := pos) (after := after) hs ht hx
  rwa [wrap_u64 h0 h1] at this
theorem Val.toW {s t : TypeId} {ds : TypeDesc} {k' : IntKind} {b : Int} (hs : P.underlying s = some ds) (ht : P.underlying t = some (.int .u32)) (hx : ev E x = some (.int k' b)) (h0 : 0 ≤ b) (h1 : b < 4294967296) :
    Val P Γ E H ⟨dst, .convert s t x, ty, pos, after, g⟩ (.int .u32 b) := by
  have := Val.conv (P := P) (Γ := Γ) (H := H) (dst := dst) (g := g) (ty := ty) (pos := pos) (after := after) hs ht hx
  rwa [wrap_u32 h0 h1] at this
def Rd (w : World) (v : Value) (sz n : Nat) (xs : List Value) : Prop :=
  ∃ A c, v = .slice A n c ∧ Cells w A xs ∧ xs.length = n * sz ∧ n ≤ c ∧ (A = none → n = 0 ∧ c = 0) ∧ (0 < c → ∀ a, A = some a → a.spot = none)
abbrev RdB (w : World) (v : Value) (l : List UInt8) : Prop := Rd w v 1 l.length (l.map bv)
theorem Rd.mod {w w' : World} {sz n : Nat} {xs : List Value} (h : Rd w v sz n xs) (hm : Mod (fun _ => False) w w') : Rd w' v sz n xs := by
  obtain ⟨A, c, h1, h2, h3⟩ := h
  exact ⟨A, c, h1, h2.mod hm, h3⟩
def Off (v : Value) (xs : List Value) (S : Nat → Prop) : Prop := xs ≠ [] → ∀ b o s n c, v = .slice (some ⟨b, o, s⟩) n c → ¬ S b
theorem Off.none (v : Value) (xs : List Value) : Off v xs (fun _ => False) := fun _ _ _ _ _ _ _ h => h
theorem Rd.keep {w0 : World} {S : Nat → Prop} {w : World} {sz n : Nat} {xs : List Value} (h : Rd w0 v sz n xs) (hw : Rep w0 S H w) (ho : Off v xs S) : Rd w v sz n xs := by
  obtain ⟨A, c, h1, h2, h3⟩ := h
  refine ⟨A, c, h1, fun j u hj => ?_, h3⟩
  obtain ⟨b, o, e, hc⟩ := h2 j u hj
  exact ⟨b, o, e, hw.oldCell hc (ho (fun h0 => by rw [h0] at hj; cases hj) b o _ n c (by rw [h1, e]))⟩
theorem Rd.nil (w : World) (sz : Nat) : Rd w (.slice none 0 0) sz 0 [] := ⟨none, 0, rfl, (fun j u h => by cases h), by simp, Nat.le_refl _, (fun _ => ⟨rfl, rfl⟩), (fun _ a h => by cases h)⟩
theorem row_rd {w : World} {e sz n : Nat} {xs : List Value} (h : w.ownsRow 0 e sz v n xs) (hsz : 0 < sz) : Rd w v sz n xs := by
  have hl : xs.length = n * sz := h.1
  rcases h.2 with ⟨rfl, rfl⟩ | ⟨b, cap, cur, rfl, h1⟩
  · have : xs = [] := List.eq_nil_of_length_eq_zero (by simpa using hl)
    subst this
    exact Rd.nil w sz
  · exact ⟨_, cap, rfl, row_cells h hsz, hl, by have := h1; omega, (fun h => by cases h), (fun _ a h => by cases h; rfl)⟩
theorem Rd.bytes {w : World} {l : List UInt8} (h : RdB w v l) : ∃ A c, v = .slice A l.length c ∧ Bytes w A l ∧ l.length ≤ c ∧ (A = none → l.length = 0 ∧ c = 0) ∧ (0 < c → ∀ a, A = some a → a.spot = none) := by
  obtain ⟨A, c, h1, h2, h3, h4⟩ := h
  refine ⟨A, c, h1, fun k q hk => ?_, h4⟩
  exact h2 k (bv q) (by rw [List.getElem?_map, hk]; rfl)
theorem Val.lenRd {t el sz n : Nat} {w : World} {xs : List Value} (h : Rd w v sz n xs) (hu : P.underlying t = some (.slice el)) (hx : ev E x = some v) :
    Val P Γ E H ⟨dst, .call { callee := .builtin .len, args := #[x], argTypes := #[t] }, ty, pos, after, g⟩ (.int .i64 n) := by
  obtain ⟨A, c, rfl, _⟩ := h
  exact Val.len (bt := #[]) hu hx
theorem Rd.at {w : World} {sz n : Nat} {xs : List Value} {j : Nat} (h : Rd w v sz n xs) (hj : j < n) :
    ∃ b o c, v = .slice (some ⟨b, o, none⟩) n c ∧ ∀ i q, xs[j * sz + i]? = some q → w.cell? ⟨b, o + j * sz + i, none⟩ = some q := by
  obtain ⟨A, c, rfl, h2, h3, h4, h5, h6⟩ := h
  cases A with
  | none => have := (h5 rfl).1; omega
  | some a =>
    obtain ⟨b, o, s⟩ := a
    have : s = none := h6 (by omega) _ rfl
    subst this
    refine ⟨b, o, c, rfl, fun i q hq => ?_⟩
    obtain ⟨b', o', e, hc⟩ := h2 _ _ hq
    simp only [Option.some.injEq, Addr.mk.injEq] at e
    obtain ⟨rfl, rfl, _⟩ := e
    rw [Nat.add_assoc]; exact hc
theorem At.idxRd {t el sz n : Nat} {xs : List Value} {k : IntKind} {j : Int} (h : Rd Γ.w0 v sz n xs) (hu : P.underlying t = some (.slice el)) (hs : ∀ w, (sizeOf el).run P w = .ok sz w) (hx : ev E x = some v) (hy : ev E y = some (.int k j)) (h0 : 0 ≤ j) (h1 : j < n)
    (hg : g = none) (hn : Nat.blt d Γ.n = true)
    (c : ∀ b o, (∀ i q, xs[j.toNat * sz + i]? = some q → Γ.w0.cell? ⟨b, o + i, none⟩ = some q) → At Γ ((d, .pointer (some ⟨b, o, none⟩)) :: E) H (wpList P ops Q rest)) :
    At Γ E H (wpList P ops Q ({ dst := some d, op := .indexAddr t x y, type := ty, pos, after, guard := g } :: rest)) := by
  obtain ⟨b, o, cap, rfl, hc⟩ := h.at (j := j.toNat) (by omega)
  exact At.val (Val.indexSl _ rfl hu hs hx hy h0 h1) hg rfl hn (c b _ hc)
theorem QAt.idxRd {t el sz n : Nat} {xs : List Value} {k : IntKind} {j : Int} (h : Rd Γ.w0 v sz n xs) (hu : P.underlying t = some (.slice el)) (hs : ∀ w, (sizeOf el).run P w = .ok sz w) (hx : ev E x = some v) (hy : ev E y = some (.int k j)) (h0 : 0 ≤ j) (h1 : j < n)
    (hg : g = none) (hn : Nat.blt d Γ.n = true)
    (c : ∀ b o, (∀ i q, xs[j.toNat * sz + i]? = some q → Γ.w0.cell? ⟨b, o + i, none⟩ = some q) → QAt P Γ ops ((d, .pointer (some ⟨b, o, none⟩)) :: E) H rest ψ) :
    QAt P Γ ops E H ({ dst := some d, op := .indexAddr t x y, type := ty, pos, after, guard := g } :: rest) ψ := by
  obtain ⟨b, o, cap, rfl, hc⟩ := h.at (j := j.toNat) (by omega)
  exact QAt.val (Val.indexSl _ rfl hu hs hx hy h0 h1) hg rfl hn (c b _ hc)
theorem At.idxB {t el : Nat} {l : List UInt8} {k : IntKind} {j : Int} (h : RdB Γ.w0 v l) (hu : P.underlying t = some (.slice el)) (hs : ∀ w, (sizeOf el).run P w = .ok 1 w) (hx : ev E x = some v) (hy : ev E y = some (.int k j)) (h0 : 0 ≤ j) (h1 : j < l.length)
    (hg : g = none) (hn : Nat.blt d Γ.n = true)
    (c : ∀ b o q, l[j.toNat]? = some q → q.toNat < 256 → Γ.w0.cell? ⟨b, o, none⟩ = some (bv q) → At Γ ((d, .pointer (some ⟨b, o, none⟩)) :: E) H (wpList P ops Q rest)) :
    At Γ E H (wpList P ops Q ({ dst := some d, op := .indexAddr t x y, type := ty, pos, after, guard := g } :: rest)) :=
  At.idxRd h hu hs hx hy h0 h1 hg hn fun b o hc => by
    have hq : l[j.toNat]? = some (l[j.toNat]'(by omega)) := List.getElem?_eq_getElem _
    exact c b o _ hq (UInt8.toNat_lt _) (hc 0 _ (by rw [Nat.mul_one, Nat.add_zero, List.getElem?_map, hq]; rfl))
theorem QAt.idxB {t el : Nat} {l : List UInt8} {k : IntKind} {j : Int} (h : RdB Γ.w0 v l) (hu : P.underlying t = some (.slice el)) (hs : ∀ w, (sizeOf el).run P w = .ok 1 w) (hx : ev E x = some v) (hy : ev E y = some (.int k j)) (h0 : 0 ≤ j) (h1 : j < l.length)
    (hg : g = none) (hn : Nat.blt d Γ.n = true)
    (c : ∀ b o q, l[j.toNat]? = some q → q.toNat < 256 → Γ.w0.cell? ⟨b, o, none⟩ = some (bv q) → QAt P Γ ops ((d, .pointer (some ⟨b, o, none⟩)) :: E) H rest ψ) :
    QAt P Γ ops E H ({ dst := some d, op := .indexAddr t x y, type := ty, pos, after, guard := g } :: rest) ψ :=
  QAt.idxRd h hu hs hx hy h0 h1 hg hn fun b o hc => by
    have hq : l[j.toNat]? = some (l[j.toNat]'(by omega)) := List.getElem?_eq_getElem _
    exact c b o _ hq (UInt8.toNat_lt _) (hc 0 _ (by rw [Nat.mul_one, Nat.add_zero, List.getElem?_map, hq]; rfl))
def cutA : Option Addr → Nat → Nat → Nat → Option Addr
  | some ⟨b, o, s⟩, c, l, sz => some ⟨b, if c = l then o else o + l * sz, s⟩
  | none, _, _, _ => none
theorem At.idxRowB {i t el e : Nat} {l : List UInt8} {k : IntKind} {j : Int} (hi : H[i]? = some (rowR v e 1 l.length (l.map bv))) (hu : P.underlying t = some (.slice el)) (hs : ∀ w, (sizeOf el).run P w = .ok 1 w) (hx : ev E x = some v) (hy : ev E y = some (.int k j)) (h0 : 0 ≤ j) (h1 : j < l.length)
    (hg : g = none) (hn : Nat.blt d Γ.n = true)
    (c : ∀ q, l[j.toNat]? = some q → q.toNat < 256 → At Γ ((d, .pointer (some ⟨rowB v, j.toNat, none⟩)) :: E) H (wpList P ops Q rest)) :
    At Γ E H (wpList P ops Q ({ dst := some d, op := .indexAddr t x y, type := ty, pos, after, guard := g } :: rest)) :=
  At.val (Val.indexRow (i := i) _ (by omega) hu hs hx hy hi h0 h1) hg rfl hn (c _ (List.getElem?_eq_getElem (by omega)) (UInt8.toNat_lt _))
theorem QAt.idxRowB {i t el e : Nat} {l : List UInt8} {k : IntKind} {j : Int} (hi : H[i]? = some (rowR v e 1 l.length (l.map bv))) (hu : P.underlying t = some (.slice el)) (hs : ∀ w, (sizeOf el).run P w = .ok 1 w) (hx : ev E x = some v) (hy : ev E y = some (.int k j)) (h0 : 0 ≤ j) (h1 : j < l.length)
    (hg : g = none) (hn : Nat.blt d Γ.n = true)
    (c : ∀ q, l[j.toNat]? = some q → q.toNat < 256 → QAt P Γ ops ((d, .pointer (some ⟨rowB v, j.toNat, none⟩)) :: E) H rest ψ) :
    QAt P Γ ops E H ({ dst := some d, op := .indexAddr t x y, type := ty, pos, after, guard := g } :: rest) ψ :=
  QAt.val (Val.indexRow (i := i) _ (by omega) hu hs hx hy hi h0 h1) hg rfl hn (c _ (List.getElem?_eq_getElem (by omega)) (UInt8.toNat_lt _))
theorem Val.loadRowB {i t e q : Nat} {l : List UInt8} {c : UInt8} (hA : ∀ w, (isAgg t).run P w = .ok false w) (hx : ev E x = some (.pointer (some ⟨rowB v, q, none⟩))) (hi : H[i]? = some (rowR v e 1 l.length (l.map bv))) (hv : l[q]? = some c) :
    Val P Γ E H ⟨dst, .load t x, ty, pos, after, g⟩ (bv c) := Val.loadRow hA hx hi (by rw [List.getElem?_map, hv]; rfl)
theorem brow_set (e : Nat) (v : Value) (l : List UInt8) (j : Nat) (c : UInt8) : rowR v e 1 l.length ((l.map bv).set j (bv c)) = brow e v (l.set j c) := by simp [brow, List.map_set]
theorem Rd.cut {w : World} {sz n l h : Nat} {A : Option Addr} {c : Nat} {xs : List Value} (hr : Rd w (.slice A n c) sz n xs) (h1 : l ≤ h) (h2 : h ≤ n) :
    Rd w (.slice (cutA A c l sz) (h - l) (c - l)) sz (h - l) ((xs.drop (l * sz)).take ((h - l) * sz)) := by
  obtain ⟨A', c', e, g2, g3, g4, g5, g6⟩ := hr
  simp only [Value.slice.injEq, true_and] at e
  obtain ⟨rfl, rfl⟩ := e
  have hle : h * sz ≤ n * sz := Nat.mul_le_mul_right _ h2
  have hs : (h - l) * sz = h * sz - l * sz := Nat.sub_mul ..
  have hl' : l * sz ≤ h * sz := Nat.mul_le_mul_right _ h1
  refine ⟨_, _, rfl, fun j u hj => ?_, by rw [List.length_take, List.length_drop, g3]; omega, by omega, fun h0 => ?_, fun hc0 a ha => ?_⟩
  · rw [List.getElem?_take] at hj
    split at hj
    · rename_i hlt
      rw [List.getElem?_drop] at hj
      obtain ⟨b, o, rfl, hc⟩ := g2 _ _ hj
      refine ⟨b, _, rfl, ?_⟩
      by_cases hcl : c = l
      · exfalso
        have : h - l = 0 := by omega
        rw [this] at hlt; simp at hlt
      · rw [if_neg hcl, Nat.add_assoc]; exact hc
    · cases hj
  · cases A with
    | none => have := g5 rfl; omega
    | some a => cases h0
  · cases A with
    | none => cases ha
    | some a' =>
      obtain ⟨b, o, s⟩ := a'
      have := g6 (by omega) _ rfl
      have ha' := Option.some.inj ha
      subst ha'; exact this
theorem RdB.cut {w : World} {l h : Nat} {A : Option Addr} {c : Nat} {bs : List UInt8} (hr : RdB w (.slice A bs.length c) bs) (h1 : l ≤ h) (h2 : h ≤ bs.length) :
    RdB w (.slice (cutA A c l 1) (h - l) (c - l)) ((bs.drop l).take (h - l)) := by
  have := Rd.cut hr h1 h2
  simp only [Nat.mul_one, ← List.map_drop, ← List.map_take] at this
  have e : ((bs.drop l).take (h - l)).length = h - l := by rw [List.length_take, List.length_drop]; omega
  unfold RdB
  rw [e]
  exact this
theorem run_cutNil {t el n : Nat} {a : Act} {nn : Nat} {D : List Deferred} (ha : Agrees nn D E a) {lo hi : Option Operand} {l h : Nat} (hu : P.underlying t = some (.slice el)) (hs : ∀ w, (sizeOf el).run P w = .ok n w) (hx : ev E x = some (.slice none 0 0)) (hl : Bd E lo 0 l) (hh : Bd E hi 0 h) (h1 : l ≤ h) (h2 : h ≤ 0) (w : World) :
    (execOp a.eval ⟨dst, .slice t x lo hi .none, ty, pos, after, g⟩).run P w = .ok (.value (.slice none (h - l) (0 - l))) w := by
  have hr := run_sliceBounds (P := P) ha (is := true) hl hh h1 h2 w
  simp only [execOp, ha.eval hx, Sem.run_bind, Instr.sliceAt, run_underlying hu, Result.andThen_ok, Instr.slice, Sem.run_pure, Option.map_none, hr, hs]
  first | (split <;> simp) | simp
theorem Val.cutRd {t el n c l h sz : Nat} {A : Option Addr} {xs : List Value} {w : World} {lo hi : Option Operand} (hr : Rd w (.slice A n c) sz n xs) (hu : P.underlying t = some (.slice el)) (hs : ∀ w, (sizeOf el).run P w = .ok sz w)
    (hx : ev E x = some (.slice A n c)) (hl : Bd E lo 0 l) (hh : Bd E hi n h) (h1 : l ≤ h) (h2 : h ≤ n) :
    Val P Γ E H ⟨dst, .slice t x lo hi .none, ty, pos, after, g⟩ (.slice (cutA A c l sz) (h - l) (c - l)) := by
  obtain ⟨A', c', e, g2, g3, g4, g5, g6⟩ := hr
  simp only [Value.slice.injEq, true_and] at e
  obtain ⟨rfl, rfl⟩ := e
  cases A with
  | none =>
    obtain ⟨rfl, rfl⟩ := g5 rfl
    exact fun a w ha _ => run_cutNil ha hu hs hx hl hh h1 h2 w
  | some a =>
    obtain ⟨b, o, s⟩ := a
    rcases Nat.eq_zero_or_pos c with hc0 | hc0
    · subst hc0
      obtain rfl : h = 0 := by omega
      obtain rfl : l = 0 := by omega
      intro a w ha _
      have hr := run_sliceBounds (P := P) ha (is := true) hl hh h1 (Nat.le_refl 0) w
      simp only [execOp, ha.eval hx, Sem.run_bind, Instr.sliceAt, run_underlying hu, Result.andThen_ok, Instr.slice, Sem.run_pure, Option.map_none, hr, hs]
      rfl
    · have : s = none := g6 hc0 _ rfl
      subst this
      exact Val.cutSl l h _ _ _ hu hs hx hl hh h1 (by omega) rfl rfl rfl
theorem At.cutB {t el : Nat} {bs : List UInt8} {lo hi : Option Operand} (l h : Nat) (hr : RdB Γ.w0 v bs) (hu : P.underlying t = some (.slice el)) (hs : ∀ w, (sizeOf el).run P w = .ok 1 w) (hx : ev E x = some v) (hl : Bd E lo 0 l) (hh : Bd E hi bs.length h) (h1 : l ≤ h) (h2 : h ≤ bs.length)
    (hg : g = none) (hn : Nat.blt d Γ.n = true) (k : ∀ v', RdB Γ.w0 v' ((bs.drop l).take (h - l)) → At Γ ((d, v') :: E) H (wpList P ops Q rest)) :
    At Γ E H (wpList P ops Q ({ dst := some d, op := .slice t x lo hi .none, type := ty, pos, after, guard := g } :: rest)) := by
  have hr0 := hr
  obtain ⟨A, c, rfl, _⟩ := hr
  exact At.val (Val.cutRd hr0 hu hs hx hl hh h1 h2) hg rfl hn (k _ (RdB.cut hr0 h1 h2))
theorem QAt.cutB {t el : Nat} {bs : List UInt8} {lo hi : Option Operand} (l h : Nat) (hr : RdB Γ.w0 v bs) (hu : P.underlying t = some (.slice el)) (hs : ∀ w, (sizeOf el).run P w = .ok 1 w) (hx : ev E x = some v) (hl : Bd E lo 0 l) (hh : Bd E hi bs.length h) (h1 : l ≤ h) (h2 : h ≤ bs.length)
    (hg : g = none) (hn : Nat.blt d Γ.n = true) (k : ∀ v', RdB Γ.w0 v' ((bs.drop l).take (h - l)) → QAt P Γ ops ((d, v') :: E) H rest ψ) :
    QAt P Γ ops E H ({ dst := some d, op := .slice t x lo hi .none, type := ty, pos, after, guard := g } :: rest) ψ := by
  have hr0 := hr
  obtain ⟨A, c, rfl, _⟩ := hr
  exact QAt.val (Val.cutRd hr0 hu hs hx hl hh h1 h2) hg rfl hn (k _ (RdB.cut hr0 h1 h2))
theorem At.arrB {t el n : Nat} {bs : List UInt8} (hr : RdB Γ.w0 v bs) (hu : P.underlying t = some (.array n el)) (hx : ev E x = some v) (h1 : n ≤ bs.length) (h0 : 0 < n) (hg : g = none) (hn : Nat.blt d Γ.n = true)
    (k : ∀ b o, (∀ j u, ((bs.take n).map bv)[j]? = some u → Γ.w0.cell? ⟨b, o + j, none⟩ = some u) → At Γ ((d, .pointer (some ⟨b, o, none⟩)) :: E) H (wpList P ops Q rest)) :
    At Γ E H (wpList P ops Q ({ dst := some d, op := .sliceToArrayPointer t x, type := ty, pos, after, guard := g } :: rest)) := by
  obtain ⟨b, o, c, rfl, hc⟩ := hr.at (j := 0) (by omega)
  refine At.val (v := .pointer (some ⟨b, o, none⟩)) (fun a w ha _ => ?_) hg rfl hn (k b o fun j u hj => ?_)
  · simp [execOp, ha.eval hx, Instr.arrayAt, Sem.run_bind, run_underlying hu, show ¬ bs.length < n by omega]
  · have := hc j u (by
      rw [List.map_take, List.getElem?_take] at hj
      split at hj
      · simpa using hj
      · cases hj)
    simpa using this
end
end Go.Wk
namespace Go.Wk
open Go
section
variable {P : Program} {Γ : Ctx} {E : Env} {H : List Res} {ops : Array Oper} {Q : Exit → Act → World → Prop} {rest : List Oper}
  {d : Nat} {ty : TypeId} {pos : String} {after : Array Edge} {x y z : Operand} {v u vy : Value} {g : Option (Nat × Bool)}
theorem At.appendRd {i t e sz by_ n m : Nat} {ti : TypeInfo} {z : Value} {xs ys : List Value} (ht : P.underlying t = some (.slice e)) (hti : P.info? e = some ti) (hz : ti.zero = some z) (hsize : ti.size = sz) (hby : ti.bytes = by_) (hzs : z.cells.size = sz) (hsz : Nat.blt 0 sz = true)
    (hx : ev E x = some v) (hy : ev E y = some vy) (hi : H[i]? = some (rowR v e sz n xs)) (hr : Rd Γ.w0 vy sz m ys) (ho : Off vy ys Γ.S) (h1 : ∀ u ∈ ys, u.oneCell' = true) (h63 : (n + m) * by_ ≤ 140737488355328) (h64 : n + m ≤ 140737488355328) (hn : Nat.blt d Γ.n = true)
    (k : ∀ v', At Γ ((d, v') :: E) (H.set i (rowR v' e sz (n + m) (xs ++ ys))) (wpList P ops Q rest)) :
    At Γ E H (wpList P ops Q ({ dst := some d, op := .call { callee := .builtin .append, args := #[x, y], argTypes := #[t, t] }, type := ty, pos, after, guard := none } :: rest)) := by
  have hr0 := hr
  obtain ⟨A, c, rfl, g2, g3, g4, g5, g6⟩ := hr
  refine At.appendSl ht hti hz hsize hby hzs hsz hx hy hi g3 g4 g5 g6 (fun w hw => ?_) h1 h63 h64 hn k
  obtain ⟨A', c', e, q2, _⟩ := hr0.keep hw ho
  simp only [Value.slice.injEq, true_and] at e
  obtain ⟨rfl, rfl⟩ := e
  exact q2
theorem At.appendRow {i j t e e' sz by_ n m : Nat} {ti : TypeInfo} {z : Value} {xs ys : List Value} (ht : P.underlying t = some (.slice e)) (hti : P.info? e = some ti) (hz : ti.zero = some z) (hsize : ti.size = sz) (hby : ti.bytes = by_) (hzs : z.cells.size = sz) (hsz : Nat.blt 0 sz = true)
    (hx : ev E x = some v) (hy : ev E y = some vy) (hi : H[i]? = some (rowR v e sz n xs)) (hj : H[j]? = some (rowR vy e' sz m ys)) (h1 : ∀ u ∈ ys, u.oneCell' = true) (h63 : (n + m) * by_ ≤ 140737488355328) (h64 : n + m ≤ 140737488355328) (hn : Nat.blt d Γ.n = true)
    (k : ∀ v', At Γ ((d, v') :: E) (H.set i (rowR v' e sz (n + m) (xs ++ ys))) (wpList P ops Q rest)) :
    At Γ E H (wpList P ops Q ({ dst := some d, op := .call { callee := .builtin .append, args := #[x, y], argTypes := #[t, t] }, type := ty, pos, after, guard := none } :: rest)) := fun a w ha hw => by
  have hsz' : 0 < sz := by simpa [Nat.blt_eq] using hsz
  have hr := row_rd (hw.row hj) hsz'
  obtain ⟨A, c, rfl, g2, g3, g4, g5, g6⟩ := hr
  refine At.appendSl ht hti hz hsize hby hzs hsz hx hy hi g3 g4 g5 g6 (fun w hw => ?_) h1 h63 h64 hn k a w ha hw
  obtain ⟨A', c', e, q2, _⟩ := row_rd (hw.row hj) hsz'
  simp only [Value.slice.injEq, true_and] at e
  obtain ⟨rfl, rfl⟩ := e
  exact q2
theorem bv_one (l : List UInt8) : ∀ u ∈ l.map bv, u.oneCell' = true := fun u hu => by
  obtain ⟨c, _, rfl⟩ := List.mem_map.1 hu
  rfl
theorem At.appendRdB {i t e by_ : Nat} {ti : TypeInfo} {z : Value} {l m : List UInt8} (ht : P.underlying t = some (.slice e)) (hti : P.info? e = some ti) (hz : ti.zero = some z) (hsize : ti.size = 1) (hby : ti.bytes = by_) (hzs : z.cells.size = 1)
    (hx : ev E x = some v) (hy : ev E y = some vy) (hi : H[i]? = some (rowR v e 1 l.length (l.map bv))) (hr : RdB Γ.w0 vy m) (ho : Off vy (m.map bv) Γ.S) (h63 : (l.length + m.length) * by_ ≤ 140737488355328) (h64 : l.length + m.length ≤ 140737488355328) (hn : Nat.blt d Γ.n = true)
    (k : ∀ v', At Γ ((d, v') :: E) (H.set i (brow e v' (l ++ m))) (wpList P ops Q rest)) :
    At Γ E H (wpList P ops Q ({ dst := some d, op := .call { callee := .builtin .append, args := #[x, y], argTypes := #[t, t] }, type := ty, pos, after, guard := none } :: rest)) :=
  At.appendRd ht hti hz hsize hby hzs rfl hx hy hi hr ho (bv_one m) h63 h64 hn fun v' => by
    have := k v'
    simpa only [brow, List.map_append, List.length_append] using this
theorem At.appendRowB {i j t e e' by_ : Nat} {ti : TypeInfo} {z : Value} {l m : List UInt8} (ht : P.underlying t = some (.slice e)) (hti : P.info? e = some ti) (hz : ti.zero = some z) (hsize : ti.size = 1) (hby : ti.bytes = by_) (hzs : z.cells.size = 1)
    (hx : ev E x = some v) (hy : ev E y = some vy) (hi : H[i]? = some (rowR v e 1 l.length (l.map bv))) (hj : H[j]? = some (rowR vy e' 1 m.length (m.map bv))) (h63 : (l.length + m.length) * by_ ≤ 140737488355328) (h64 : l.length + m.length ≤ 140737488355328) (hn : Nat.blt d Γ.n = true)
    (k : ∀ v', At Γ ((d, v') :: E) (H.set i (brow e v' (l ++ m))) (wpList P ops Q rest)) :
    At Γ E H (wpList P ops Q ({ dst := some d, op := .call { callee := .builtin .append, args := #[x, y], argTypes := #[t, t] }, type := ty, pos, after, guard := none } :: rest)) :=
  At.appendRow ht hti hz hsize hby hzs rfl hx hy hi hj (bv_one m) h63 h64 hn fun v' => by
    have := k v'
    simpa only [brow, List.map_append, List.length_append] using this
theorem At.rowNilB (e : Nat) {φ : Act → World → Prop} (k : At Γ E (brow e (.slice none 0 0) [] :: H) φ) : At Γ E H φ := At.rowNil e 1 k
theorem At.appendB1 {i j t e by_ b U : Nat} {ti : TypeInfo} {z : Value} {l : List UInt8} {c : UInt8} (ht : P.underlying t = some (.slice e)) (hti : P.info? e = some ti) (hz : ti.zero = some z) (hsize : ti.size = 1) (hby : ti.bytes = by_) (hzs : z.cells.size = 1)
    (hx : ev E x = some v) (hy : ev E y = some (.slice (some ⟨b, 0, none⟩) 1 1)) (hi : H[i]? = some (rowR v e 1 l.length (l.map bv))) (hj : H[j]? = some (blk b U [bv c])) (h63 : (l.length + 1) * by_ ≤ 140737488355328) (h64 : l.length + 1 ≤ 140737488355328) (hn : Nat.blt d Γ.n = true)
    (k : ∀ v', At Γ ((d, v') :: E) (H.set i (brow e v' (l ++ [c]))) (wpList P ops Q rest)) :
    At Γ E H (wpList P ops Q ({ dst := some d, op := .call { callee := .builtin .append, args := #[x, y], argTypes := #[t, t] }, type := ty, pos, after, guard := none } :: rest)) :=
  At.append (i := i) (ys := [bv c]) ht hti hz hsize hby hzs rfl hx hy hi rfl (fun w hw j' u hj' => by rw [Nat.zero_add]; exact ((hw.blk hj).cell j').trans hj') (by simp [Value.oneCell']) h63 h64 hn fun v' => by
    have := k v'
    rw [← brow_snoc] at this
    exact this
end
end Go.Wk
namespace Go.Wk
open Go
section
variable {P : Program} {ops : Array Oper} {Q : Exit → Act → World → Prop} {Mid : Act → World → Prop}
theorem Oper.wp_then {o : Oper} {a : Act} {w : World} {K K' : Act → World → Prop} (h : ∀ a w, K a w → K' a w) (hh : o.wp P a w K (Exit.then Mid Q)) : o.wp P a w K' Q := by
  unfold Oper.wp at *
  generalize (execOp a.eval o).run P w = r at *
  cases r with
  | ok n w' =>
    cases n <;> simp only [Oper.upon] at hh ⊢ <;>
      first
        | exact h _ _ hh
        | exact Calls.mono hh (fun e w'' he => by cases e <;> first | exact h _ _ he | exact he)
        | exact Rows.mono hh (fun _ _ he => h _ _ he)
  | halt x w' => cases x <;> simp only [Oper.upon] at hh ⊢ <;> exact hh
theorem wpList_cut {l2 : List Oper} (h2 : ∀ a w, Mid a w → wpList P ops Q l2 a w) : ∀ {l : List Oper} {a : Act} {w : World}, wpList P ops (Exit.then Mid Q) l a w → wpList P ops Q (l ++ l2) a w
  | [], a, w, h => h2 _ _ h
  | o :: l, a, w, h => by
    simp only [List.cons_append]
    unfold wpList at h ⊢
    by_cases hw : Region.wanted o (yielded ops a.tmps) = true
    · rw [if_pos hw] at h ⊢
      rcases h with h | ⟨h, h'⟩
      · exact .inl (Oper.wp_then (fun _ _ k => wpList_cut h2 k) h)
      · exact .inr ⟨h, h'⟩
    · rw [if_neg hw] at h ⊢
      exact wpList_cut h2 h
theorem wpQuiet_cut {C : World → Prop} {ψ ψ' : Act → Prop} {l2 : List Oper} (h2 : ∀ a, ψ' a → wpQuiet P ops C ψ l2 a) : ∀ {l : List Oper} {a : Act}, wpQuiet P ops C ψ' l a → wpQuiet P ops C ψ (l ++ l2) a
  | [], a, h => h2 _ h
  | o :: l, a, h => by
    simp only [List.cons_append]
    unfold wpQuiet at h ⊢
    by_cases hw : Region.wanted o (yielded ops a.tmps) = true
    · rw [if_pos hw] at h ⊢
      exact Go.Oper.quiet_mono (fun _ k => wpQuiet_cut h2 k) h
    · rw [if_neg hw] at h ⊢
      exact wpQuiet_cut h2 h
end
section
variable {P : Program} {Γ : Ctx} {E E' : Env} {H : List Res} {ops : Array Oper} {Q : Exit → Act → World → Prop} {rest l : List Oper}
  {d : Nat} {dst : Option Tmp} {ty : TypeId} {pos : String} {after : Array Edge} {x y z : Operand} {v u : Value} {g : Option (Nat × Bool)} {ψ : Act → Prop}
theorem QAt.weaken (E' : Env) (hE : Sub E E') (k : QAt P Γ ops E' H l ψ) : QAt P Γ ops E H l ψ := fun a ha => k a (ha.weaken hE)
def BoolMid (Γ : Ctx) (E : Env) (H : List Res) (d : Nat) (b : Bool) (a : Act) (w : World) : Prop := Agrees Γ.n Γ.D ((d, .bool b) :: E) a ∧ Rep Γ.w0 Γ.S H w
theorem At.boolMeet (n d : Nat) (b : Bool) (h1 : At Γ E H (wpList P ops (Exit.then (BoolMid Γ E H d b) Q) (l.take n))) (h2 : At Γ ((d, .bool b) :: E) H (wpList P ops Q (l.drop n))) : At Γ E H (wpList P ops Q l) := fun a w ha hw => by
  rw [← List.take_append_drop n l]
  exact wpList_cut (fun a w h => h2 a w h.1 h.2) (h1 a w ha hw)
theorem At.boolEnd {d : Nat} {b c : Bool} (hl : look E' d = some (.bool c)) (hc : c = b) (hE : Sub E' E) : At Γ E' H (Exit.then (BoolMid Γ E H d b) Q .normal) := fun a w ha hw => by
  subst hc
  exact ⟨ha.weaken (Sub.cons hl hE), hw⟩
theorem QAt.boolMeet (n d : Nat) (b : Bool) (h1 : QAt P Γ ops E H (l.take n) (fun a => Agrees Γ.n Γ.D ((d, .bool b) :: E) a)) (h2 : QAt P Γ ops ((d, .bool b) :: E) H (l.drop n) ψ) : QAt P Γ ops E H l ψ := fun a ha => by
  rw [← List.take_append_drop n l]
  exact wpQuiet_cut (fun a h => h2 a h) (h1 a ha)
theorem QAt.boolEnd {d : Nat} {b c : Bool} (hl : look E' d = some (.bool c)) (hc : c = b) (hE : Sub E' E) : QAt P Γ ops E' H [] (fun a => Agrees Γ.n Γ.D ((d, .bool b) :: E) a) := fun a ha => by
  subst hc
  exact wpQuiet_nil (ha.weaken (Sub.cons hl hE))
theorem At.buildRow {t e n : Nat} {parts : Array (Nat × Operand)} {vs : Array (Nat × Value)} {cs : List Value} (hp : ∀ a : Act, Agrees Γ.n Γ.D E a → (parts.map fun p => (p.1, a.eval p.2)) = vs)
    (hb : ∀ w, (Instr.buildSlice t n vs).run P w = .ok (.slice (some ⟨w.heap.size, 0, none⟩) n n) (w.alloc (.cells cs.toArray e))) (sz : Nat) (hl : cs.length = n * sz) (hm : n ≤ 140737488355328) (hn : Nat.blt d Γ.n = true)
    (k : ∀ v, At Γ ((d, v) :: E) (rowR v e sz n cs :: H) (wpList P ops Q rest)) :
    At Γ E H (wpList P ops Q ({ dst := some d, op := .buildSlice t n parts, type := ty, pos, after, guard := none } :: rest)) :=
  At.run rfl rfl hn fun a w ha hw => by
    refine ⟨_, _, _, ?_, hw.new (r' := rowR (.slice (some ⟨w.heap.size, 0, none⟩) n n) e sz n cs) (Mod.alloc w (.cells cs.toArray e)) ?_ (fun b hb => ?_), k _⟩
    · have := hp a ha
      simp only [execOp]
      rw [show (parts.map fun (x : Nat × Operand) => (x.1, a.eval x.2)) = vs from this]
      simp [Sem.run_bind, hb]
    · exact ⟨hl, .inr ⟨w.heap.size, n, cs.toArray, rfl, Nat.zero_le _, heap_alloc_new w _, Nat.le_refl _, by unfold maxLen; omega, by simpa using hl, by rw [← hl]; simp⟩⟩
    · simp only [rowR, Value.ownBlock, Option.some.injEq] at hb
      omega
theorem Val.toB {s t : TypeId} {ds : TypeDesc} {k' : IntKind} {b : Int} (hs : P.underlying s = some ds) (ht : P.underlying t = some (.int .u8)) (hx : ev E x = some (.int k' b)) (h0 : 0 ≤ b) :
    Val P Γ E H ⟨dst, .convert s t x, ty, pos, after, g⟩ (bv (UInt8.ofNat b.toNat)) := by
  have := Val.conv (P := P) (Γ := Γ) (H := H) (dst := dst) (g := g) (ty := ty) (pos := pos) (after := after) hs ht hx
  rwa [show b = ((b.toNat : Nat) : Int) by omega, wrap_u8_nat] at this
theorem or_one {o i : Int} (h : o = 0 ∨ i = 0) (ho : 0 ≤ o) (ho' : o ≤ 9223372036854775807) (hi : 0 ≤ i) (hi' : i ≤ 9223372036854775807) : ib .or .i64 o i = o + i := by
  have key : ∀ x : Int, 0 ≤ x → x ≤ 9223372036854775807 → IntKind.i64.wrap ((BitVec.ofInt 64 x).toNat : Int) = x := fun x h0 h1 => by
    rw [BitVec.toNat_ofInt, show x % ((2 ^ 64 : Nat) : Int) = x from Int.emod_eq_of_lt h0 (by omega), wrap_i64 (by omega) (by omega)]
    omega
  have z : BitVec.ofInt 64 0 = 0#64 := rfl
  rcases h with rfl | rfl
  · show IntKind.i64.wrap ((BitVec.ofInt 64 0 ||| BitVec.ofInt 64 i).toNat : Int) = 0 + i
    rw [z, BitVec.zero_or, key i hi hi', Int.zero_add]
  · show IntKind.i64.wrap ((BitVec.ofInt 64 o ||| BitVec.ofInt 64 0).toNat : Int) = o + 0
    rw [z, BitVec.or_zero, key o ho ho', Int.add_zero]
def vN (s : ByteArray) : Nat := if validB s then 1 else 0
theorem vN_T {s : ByteArray} : validB s = true ↔ vN s = 1 := by unfold vN; cases validB s <;> simp
theorem vN_F {s : ByteArray} : validB s = false ↔ vN s = 0 := by unfold vN; cases validB s <;> simp
theorem nmE_T {s : ByteArray} : (s.toList == (ByteArray.mk #[]).toList) = true ↔ s.size = 0 := by
  rw [ByteArray.toList_eq, ByteArray.toList_eq, ← size_len]
  show (s.data.toList == ([] : List UInt8)) = true ↔ s.data.toList.length = 0
  rw [beq_iff_eq, List.length_eq_zero_iff]
theorem nmE_F {s : ByteArray} : (s.toList == (ByteArray.mk #[]).toList) = false ↔ s.size ≠ 0 := by
  rw [← Bool.not_eq_true, nmE_T]
end
end Go.Wk
namespace Go.Wk
open Go
section
variable {P : Program} {Γ : Ctx} {E E' : Env} {H : List Res} {ops : Array Oper} {Q : Exit → Act → World → Prop} {rest l : List Oper}
  {d : Nat} {dst : Option Tmp} {ty : TypeId} {pos : String} {after : Array Edge} {x y z : Operand} {v u : Value} {g : Option (Nat × Bool)} {ψ : Act → Prop}
theorem grown_none {w w' : World} (h : w.grownBy w' none) : Mod (fun _ => False) w w' := ⟨h.size, fun b hb _ => h.block b hb (fun e => by cases e), h.os, h.tape, h.output⟩
theorem own_block {w : World} {v : Value} {base e sz n : Nat} {xs : List Value} (h : w.ownsRow base e sz v n xs) : ∀ b, v.ownBlock = some b → base ≤ b := fun b hb => (h.lt b hb).1
theorem own_base {w : World} {v : Value} {base e sz n : Nat} {xs : List Value} (h : w.ownsRow base e sz v n xs) : w.ownsRow 0 e sz v n xs := by
  refine ⟨h.1, ?_⟩
  rcases h.2 with hn | ⟨g, cap, cur, h1, h2, rest⟩
  · exact .inl hn
  · exact .inr ⟨g, cap, cur, h1, Nat.zero_le _, rest⟩
theorem At.makeRow {t e sz n : Nat} {ti : TypeInfo} {zv : Value} {cs : List Value} (ht : P.underlying t = some (.slice e)) (hti : P.info? e = some ti) (hz : ti.zero = some zv) (hsize : ti.size = sz) (hcs : (madeCells zv.cells (n * sz)).toList = cs)
    (hx : ev E x = some (.int .i64 (n : Int))) (hy : ev E y = some (.int .i64 (n : Int))) (hbytes : ti.bytes * n ≤ 281474976710656) (h63 : n ≤ 140737488355328) (hn : Nat.blt d Γ.n = true)
    (k : ∀ v, At Γ ((d, v) :: E) (rowR v e sz n cs :: H) (wpList P ops Q rest)) :
    At Γ E H (wpList P ops Q ({ dst := some d, op := .makeSlice t x y, type := ty, pos, after, guard := none } :: rest)) :=
  At.run rfl rfl hn fun a w ha hw => by
    obtain ⟨w', hr, hown, hg⟩ := run_make_full (P := P) w w.heap.size t e ti zv sz ht hti hz hsize .i64 .i64 n hbytes (by unfold maxLen; omega) (Nat.le_refl _)
    refine ⟨_, w', _, by simp [execOp, ha.eval hx, ha.eval hy, Sem.run_bind, hr], hw.new (r' := rowR _ e sz n cs) (grown_none hg) (by subst hcs; exact own_base hown) (fun b hb => own_block hown b hb), k _⟩
theorem At.makeRow0 {t e sz c : Nat} {ti : TypeInfo} {zv : Value} (ht : P.underlying t = some (.slice e)) (hti : P.info? e = some ti) (hz : ti.zero = some zv) (hsize : ti.size = sz)
    (hx : ev E x = some (.int .i64 0)) (hy : ev E y = some (.int .i64 (c : Int))) (hbytes : ti.bytes * c ≤ 281474976710656) (h63 : c ≤ 140737488355328) (hn : Nat.blt d Γ.n = true)
    (k : ∀ v, At Γ ((d, v) :: E) (rowR v e sz 0 [] :: H) (wpList P ops Q rest)) :
    At Γ E H (wpList P ops Q ({ dst := some d, op := .makeSlice t x y, type := ty, pos, after, guard := none } :: rest)) :=
  At.run rfl rfl hn fun a w ha hw => by
    obtain ⟨w', hr, hown, hg⟩ := run_make_own (P := P) w w.heap.size t e ti zv sz ht hti hz hsize .i64 .i64 c hbytes (by unfold maxLen; omega) (Nat.le_refl _)
    refine ⟨_, w', _, by simp [execOp, ha.eval hx, ha.eval hy, Sem.run_bind, hr], hw.new (r' := rowR _ e sz 0 []) (grown_none hg) (own_base hown) (fun b hb => own_block hown b hb), k _⟩
theorem made_zs (n : Nat) : (madeCells #[Value.int .u8 0] (n * 1)).toList = (zs n).map bv := by
  rw [zs_bv, Nat.mul_one]
  apply List.ext_getElem
  · simp [madeCells]
  · intro i h1 h2
    simp [madeCells, Nat.mod_one]
theorem At.makeRowB {t e n : Nat} {ti : TypeInfo} (ht : P.underlying t = some (.slice e)) (hti : P.info? e = some ti) (hz : ti.zero = some (.int .u8 0)) (hsize : ti.size = 1) (hb : ti.bytes = 1)
    (hx : ev E x = some (.int .i64 (n : Int))) (hy : ev E y = some (.int .i64 (n : Int))) (h63 : n ≤ 140737488355328) (hn : Nat.blt d Γ.n = true)
    (k : ∀ v, At Γ ((d, v) :: E) (brow e v (zs n) :: H) (wpList P ops Q rest)) :
    At Γ E H (wpList P ops Q ({ dst := some d, op := .makeSlice t x y, type := ty, pos, after, guard := none } :: rest)) :=
  At.makeRow ht hti hz hsize (made_zs n) hx hy (by rw [hb]; omega) h63 hn fun v => by
    have := k v
    unfold brow at this
    rwa [zs_length] at this
theorem At.makeRow0B {t e c : Nat} {ti : TypeInfo} (ht : P.underlying t = some (.slice e)) (hti : P.info? e = some ti) (hz : ti.zero = some (.int .u8 0)) (hsize : ti.size = 1) (hb : ti.bytes = 1)
    (hx : ev E x = some (.int .i64 0)) (hy : ev E y = some (.int .i64 (c : Int))) (h63 : c ≤ 140737488355328) (hn : Nat.blt d Γ.n = true)
    (k : ∀ v, At Γ ((d, v) :: E) (brow e v [] :: H) (wpList P ops Q rest)) :
    At Γ E H (wpList P ops Q ({ dst := some d, op := .makeSlice t x y, type := ty, pos, after, guard := none } :: rest)) :=
  At.makeRow0 ht hti hz hsize hx hy (by rw [hb]; omega) h63 hn k
theorem Val.cutRow {i t el e n c l h sz : Nat} {A : Option Addr} {xs : List Value} {lo hi : Option Operand} (hr : H[i]? = some (rowR (.slice A n c) e sz n xs)) (hsz : 0 < sz) (hu : P.underlying t = some (.slice el)) (hs : ∀ w, (sizeOf el).run P w = .ok sz w)
    (hx : ev E x = some (.slice A n c)) (hl : Bd E lo 0 l) (hh : Bd E hi n h) (h1 : l ≤ h) (h2 : h ≤ n) :
    Val P Γ E H ⟨dst, .slice t x lo hi .none, ty, pos, after, g⟩ (.slice (cutA A c l sz) (h - l) (c - l)) := fun a w ha hw =>
  Val.cutRd (Γ := Γ) (H := H) (row_rd (hw.row hr) hsz) hu hs hx hl hh h1 h2 a w ha hw
theorem At.storeRowB {i t e q : Nat} {l : List UInt8} {c : UInt8} (hs : ∀ w, (sizeOf t).run P w = .ok 1 w) (hx : ev E x = some (.pointer (some ⟨rowB v, q, none⟩))) (hy : ev E y = some (bv c)) (hi : H[i]? = some (rowR v e 1 l.length (l.map bv))) (hq : q < l.length)
    (k : At Γ E (H.set i (brow e v (l.set q c))) (wpList P ops Q rest)) : At Γ E H (wpList P ops Q ({ dst := .none, op := .store t x y, type := ty, pos, after, guard := none } :: rest)) :=
  At.storeRow hs hx hy rfl hi (by simpa using hq) (by rw [brow_set]; exact k)
end
end Go.Wk
namespace Go.Wk
open Go
section
variable {P : Program} {Γ : Ctx} {E E' : Env} {H : List Res} {ops : Array Oper} {Q : Exit → Act → World → Prop} {rest : List Oper}
  {d : Nat} {ty : TypeId} {pos : String} {after : Array Edge}
def SomeC (P : Program) (f : FuncId) (vs : List Value) (R : Value → Prop) (w : World) : Prop := Calls P f vs.toArray w fun e w' => ∃ v, R v ∧ e = .returned v ∧ Mod (fun _ => False) w w'
theorem At.callX {R : Value → Prop} {f : FuncId} {l : List Operand} {vs : List Value} {at_ : Array TypeId} (h : ∀ w, Rep Γ.w0 Γ.S H w → SomeC P f vs R w) (hc : ∀ args w, (callFunc f args).run P w = .ok (.enter f args) w) (hv : evs E l = some vs) (hn : Nat.blt d Γ.n = true)
    (k : ∀ v, R v → At Γ ((d, v) :: E) H (wpList P ops Q rest)) :
    At Γ E H (wpList P ops Q ({ dst := some d, op := .call { callee := .value (.func f), args := l.toArray, argTypes := at_ }, type := ty, pos, after, guard := none } :: rest)) :=
  At.call hc hv hn fun w hw => (h w hw).mono fun e w' ⟨v, hR, he, hm⟩ => ⟨v, H, he, hw.garbage hm, k v hR⟩
end
end Go.Wk
namespace Go
section
variable {P : Program} {ops : Array Oper} {Q : Exit → Act → World → Prop} {md : Region.Mode} {S : World → Prop} {t : Nat}
def wpAnyK (P : Program) (md : Region.Mode) (ops : Array Oper) (Q : Exit → Act → World → Prop) (S : World → Prop) (t : Nat) : Nat → Array Bool → Act → World → Prop
  | 0, listed, a, w => Region.ready md ops listed = [] ∧ Q .normal a w
  | fuel + 1, listed, a, w =>
    (Region.ready md ops listed = [] → Q .normal a w) ∧
    ∀ i ∈ Region.ready md ops listed, wpOp P ops Q i (fun a' w' => (i < t → S w') ∧ wpAnyK P md ops Q S t fuel (listed.setIfInBounds i true) a' w') a w
theorem wpAny_of_K : ∀ (fuel : Nat) (listed : Array Bool) (a : Act) (w : World), wpAnyK P md ops Q S t fuel listed a w → wpAny P md ops Q fuel listed a w
  | 0, _, _, _, h => h
  | fuel + 1, _, _, _, h => ⟨h.1, fun i hi => wpOp_mono (fun a' w' h' => wpAny_of_K fuel _ a' w' h'.2) (h.2 i hi)⟩
theorem wpAnyK_first {i : Nat} {oi : Oper} {v : Value} (hi : ops[i]? = some oi) (hsel : ∀ (j : Nat) (o : Oper) cs b, ops[j]? = some o → o.op ≠ .select cs b)
    (hQ : ∀ c a w, Q (.panic c) (a.put oi.dst v) w → Q (.panic c) a w) (htail : ∀ j oj, ops[j]? = some oj → t ≤ j → ∃ e ∈ oj.after, Region.binds md e = true ∧ e.on = i) :
    ∀ (fuel : Nat) (listed : Array Bool) (a : Act) (w : World),
      (∀ j oj, ops[j]? = some oj → j ≠ i → listed.getD j true = false → (∀ e ∈ oj.after, Region.binds md e = true → e.on ≠ i) → oi.apart ops oj = true) →
      i ∈ Region.ready md ops listed → i < t → YieldsIf P ops S oi v a → S w →
      wpAnyK P md ops Q S t fuel (listed.setIfInBounds i true) (a.put oi.dst v) w → wpAnyK P md ops Q S t (fuel + 1) listed a w := by
  intro fuel
  induction fuel with
  | zero =>
    intro listed a w _ hr hit hy hS H
    refine ⟨fun h => (by rw [h] at hr; cases hr), fun j hj => ?_⟩
    by_cases hji : j = i
    · subst hji; exact hy.wpOp hi hS ⟨fun _ => hS, H⟩
    · have := ready_mono hj hji
      rw [H.1] at this
      cases this
  | succ fuel ih =>
    intro listed a w hfree hr hit hy hS H
    refine ⟨fun h => (by rw [h] at hr; cases hr), fun j hj => ?_⟩
    by_cases hji : j = i
    · subst hji; exact hy.wpOp hi hS ⟨fun _ => hS, H⟩
    · have h1 := H.2 j (ready_mono hj hji)
      obtain ⟨hjun, oj, hoj, hall⟩ := mem_ready.1 hj
      have hnot : ∀ e ∈ oj.after, Region.binds md e = true → e.on ≠ i := fun e he hb heq => by
        have h1 := hall e he hb
        have h0 := (mem_ready.1 hr).1
        rw [heq] at h1
        rcases Nat.lt_or_ge i listed.size with h' | h'
        · simp [h'] at h0 h1; rw [h0] at h1; cases h1
        · simp [Array.getElem?_eq_none h'] at h1
      have hjt : j < t := Nat.lt_of_not_le fun hge => by
        obtain ⟨e, he, hb, heq⟩ := htail j oj hoj hge
        exact hnot e he hb heq
      have h2 := wpOp_putIf hoj (hfree j oj hoj hji hjun hnot) (fun cs b => hsel i oi cs b hi) (fun cs b => hsel j oj cs b hoj) hQ hy h1
      have hfree' : ∀ k ok, ops[k]? = some ok → k ≠ i → (listed.setIfInBounds j true).getD k true = false →
          (∀ e ∈ ok.after, Region.binds md e = true → e.on ≠ i) → oi.apart ops ok = true := fun k ok hk hki hun hno => by
        refine hfree k ok hk hki ?_ hno
        by_cases hjk : j = k
        · subst hjk; exact hjun
        · rw [getD_set_ne true hjk] at hun; exact hun
      refine wpOp_mono (fun a' w' h3 => ⟨fun _ => h3.2.1 hjt, ih (listed.setIfInBounds j true) a' w' hfree' (ready_mono hr (Ne.symm hji)) hit h3.1 (h3.2.1 hjt) ?_⟩) h2
      rw [Array.setIfInBounds_comm _ _ hji]
      exact h3.2.2
def tailB (md : Region.Mode) (ops : Array Oper) (t i : Nat) : Bool := (List.range (ops.size - t)).all fun k => match ops[t + k]? with | some o => o.after.any fun e => Region.binds md e && e.on == i | none => true
theorem tailB_spec {i : Nat} (h : tailB md ops t i = true) : ∀ j oj, ops[j]? = some oj → t ≤ j → ∃ e ∈ oj.after, Region.binds md e = true ∧ e.on = i := fun j oj hj htj => by
  have hlt : j < ops.size := by
    rcases Nat.lt_or_ge j ops.size with h' | h'
    · exact h'
    · rw [Array.getElem?_eq_none h'] at hj; cases hj
  have := List.all_eq_true.1 h (j - t) (List.mem_range.2 (by omega))
  rw [show t + (j - t) = j by omega, hj] at this
  simp only [Array.any_eq_true, Bool.and_eq_true, beq_iff_eq] at this
  obtain ⟨k, hk, h1, h2⟩ := this
  exact ⟨_, Array.getElem_mem hk, h1, h2⟩
end
namespace Wk
section
variable {P : Program} {Γ : Ctx} {E E' : Env} {H H' HS : List Res} {ops : Array Oper} {Q : Exit → Act → World → Prop} {t fuel : Nat} {listed : Array Bool} {d i : Nat} {v : Value} {o : Oper}
def NoPanic (Q : Exit → Act → World → Prop) : Exit → Act → World → Prop
  | .panic _, _, _ => False
  | e, a, w => Q e a w
def KAt (P : Program) (Γ : Ctx) (ops : Array Oper) (HS : List Res) (t fuel : Nat) (listed : Array Bool) (E : Env) (H : List Res) (Q : Exit → Act → World → Prop) : Prop :=
  ∀ a w, Agrees Γ.n Γ.D E a → Rep Γ.w0 Γ.S H w → wpAnyK P .any ops (NoPanic Q) (Rep Γ.w0 Γ.S HS) t fuel listed a w
theorem At.any {id : Nat} {l : List Oper} (HS : List Res) (t : Nat) (hm : P.follows .mixedOrders = true) (k : KAt P Γ l.toArray HS t l.length (Array.replicate l.length false) E H Q) : At Γ E H ((Code.region id l.toArray true).wp P Q) := fun a w ha hw => by
  refine wp_mono (Q := NoPanic Q) (wp_region_any hm (wpAny_of_K _ _ _ _ (k a _ ha hw.drew))) fun e a w h => ?_
  cases e <;> first | exact h | exact h.elim
theorem KAt.take (i : Nat) {o : Oper} (h : Val P Γ E HS o v) (hi : ops[i]? = some o) (hg : o.guard = none) (hd : o.dst = some d) (hn : Nat.blt d Γ.n = true) (hHS : ∀ w, Rep Γ.w0 Γ.S H w → Rep Γ.w0 Γ.S HS w)
    (hs : (Region.noSelect ops && Region.free .any ops listed i && (Region.ready .any ops listed).contains i && tailB .any ops t i && Nat.blt i t) = true)
    (k : KAt P Γ ops HS t fuel (listed.setIfInBounds i true) ((d, v) :: E) H Q) : KAt P Γ ops HS t (fuel + 1) listed E H Q := fun a w ha hw => by
  simp only [Bool.and_eq_true, Nat.blt_eq] at hs
  obtain ⟨⟨⟨⟨h1, h2⟩, h3⟩, h4⟩, h5⟩ := hs
  refine wpAnyK_first hi (Region.noSelect_spec h1) (fun c a w h => h) (tailB_spec h4) fuel listed a w (Region.free_spec hi h2) (by simpa using h3) h5 (v := v) (.inl ⟨by simp [Region.wanted, hg], fun w hw => h a w ha hw⟩) (hHS w hw) ?_
  rw [hd]
  exact k _ _ (ha.put d v hn) hw
theorem KAt.weaken (E' : Env) (hE : Sub E E') (k : KAt P Γ ops HS t fuel listed E' H Q) : KAt P Γ ops HS t fuel listed E H Q := fun a w ha hw => k a w (ha.weaken hE) hw
theorem KAt.drop (j : Nat) (k : KAt P Γ ops HS t fuel listed E (H.eraseIdx j) Q) : KAt P Γ ops HS t fuel listed E H Q := fun a w ha hw => k a w ha (hw.drop (List.eraseIdx_sublist ..))
theorem KAt.split {s : Nat} {b : Bool} (hl : look E s = some (.bool b)) (k1 : b = true → KAt P Γ ops HS t fuel listed ((s, .bool true) :: E) H Q) (k2 : b = false → KAt P Γ ops HS t fuel listed ((s, .bool false) :: E) H Q) : KAt P Γ ops HS t fuel listed E H Q := fun a w ha hw => by
  cases b
  · exact k2 rfl a w (ha.cons hl) hw
  · exact k1 rfl a w (ha.cons hl) hw
def KMid (P : Program) (Γ : Ctx) (ops : Array Oper) (HS : List Res) (t fuel : Nat) (listed : Array Bool) (i : Nat) (Q : Exit → Act → World → Prop) (a : Act) (w : World) : Prop :=
  (i < t → Rep Γ.w0 Γ.S HS w) ∧ wpAnyK P .any ops (NoPanic Q) (Rep Γ.w0 Γ.S HS) t fuel (listed.setIfInBounds i true) a w
theorem KAt.only (i : Nat) {o : Oper} (hi : ops[i]? = some o) (hr : Region.ready .any ops listed = [i])
    (k : At Γ E H (wpList P ops (Exit.then (KMid P Γ ops HS t fuel listed i Q) (NoPanic Q)) [o])) : KAt P Γ ops HS t (fuel + 1) listed E H Q := fun a w ha hw => by
  refine ⟨(fun h0 => by rw [hr] at h0; cases h0), fun j hj => ?_⟩
  rw [hr] at hj
  obtain rfl := List.mem_singleton.1 hj
  have := k a w ha hw
  unfold wpOp
  simp only [hi]
  unfold wpList at this
  split at this
  · rename_i hw'
    rw [if_pos hw']
    rcases this with h | ⟨h1, h2⟩
    · exact .inl (Oper.wp_then (Mid := KMid P Γ ops HS t fuel listed j Q) (Q := NoPanic Q) (fun a' w' h' => h') h)
    · exact .inr ⟨h1, h2⟩
  · rename_i hw'
    rw [if_neg hw']
    exact this
theorem KAt.two (i j : Nat) {oi oj : Oper} (hi : ops[i]? = some oi) (hj : ops[j]? = some oj) (hr : Region.ready .any ops listed = [i, j])
    (ki : At Γ E H (wpList P ops (Exit.then (KMid P Γ ops HS t fuel listed i Q) (NoPanic Q)) [oi])) (kj : At Γ E H (wpList P ops (Exit.then (KMid P Γ ops HS t fuel listed j Q) (NoPanic Q)) [oj])) : KAt P Γ ops HS t (fuel + 1) listed E H Q := fun a w ha hw => by
  have key : ∀ (k : Nat) (ok : Oper), ops[k]? = some ok → wpList P ops (Exit.then (KMid P Γ ops HS t fuel listed k Q) (NoPanic Q)) [ok] a w → wpOp P ops (NoPanic Q) k (fun a' w' => (k < t → Rep Γ.w0 Γ.S HS w') ∧ wpAnyK P .any ops (NoPanic Q) (Rep Γ.w0 Γ.S HS) t fuel (listed.setIfInBounds k true) a' w') a w := fun k ok hk this => by
    unfold wpOp
    simp only [hk]
    unfold wpList at this
    split at this
    · rename_i hw'
      rw [if_pos hw']
      rcases this with h | ⟨h1, h2⟩
      · exact .inl (Oper.wp_then (Mid := KMid P Γ ops HS t fuel listed k Q) (Q := NoPanic Q) (fun a' w' h' => h') h)
      · exact .inr ⟨h1, h2⟩
    · rename_i hw'
      rw [if_neg hw']
      exact this
  refine ⟨(fun h0 => by rw [hr] at h0; cases h0), fun k hk => ?_⟩
  rw [hr] at hk
  rcases List.mem_cons.1 hk with rfl | hk
  · exact key _ _ hi (ki a w ha hw)
  · obtain rfl := List.mem_singleton.1 hk
    exact key _ _ hj (kj a w ha hw)
theorem KAt.go (hHS : ∀ w, Rep Γ.w0 Γ.S H w → Rep Γ.w0 Γ.S HS w) (k : KAt P Γ ops HS t fuel (listed.setIfInBounds i true) E H Q) : At Γ E H (Exit.then (KMid P Γ ops HS t fuel listed i Q) (NoPanic Q) .normal) := fun a w ha hw => ⟨fun _ => hHS w hw, k a w ha hw⟩
theorem KAt.goT (hit : Nat.ble t i = true) (k : KAt P Γ ops HS t fuel (listed.setIfInBounds i true) E H Q) : At Γ E H (Exit.then (KMid P Γ ops HS t fuel listed i Q) (NoPanic Q) .normal) := fun a w ha hw => ⟨fun h => by have := Nat.le_of_ble_eq_true hit; omega, k a w ha hw⟩
theorem KAt.done (hr : Region.ready .any ops listed = []) (k : At Γ E H (Q .normal)) : KAt P Γ ops HS t fuel listed E H Q := fun a w ha hw => by
  cases fuel with
  | zero => exact ⟨hr, k a w ha hw⟩
  | succ n => exact ⟨fun _ => k a w ha hw, (fun i hi => by rw [hr] at hi; cases hi)⟩
end
end Wk
end Go
namespace Go.Wk
open Go
section
variable {P : Program} {Γ : Ctx} {E E' : Env} {H HS : List Res} {ops : Array Oper} {Q : Exit → Act → World → Prop} {rest : List Oper}
  {d : Nat} {dst : Option Tmp} {ty : TypeId} {pos : String} {after : Array Edge} {x y z : Operand} {v u vy : Value} {g : Option (Nat × Bool)} {ψ : Act → Prop} {t' fuel : Nat} {listed : Array Bool}
theorem KAt.pin (hHS : ∀ w, Rep Γ.w0 Γ.S H w → Rep Γ.w0 Γ.S HS w) (k : KAt P Γ ops HS t' fuel listed E H Q) : KAt P Γ ops HS t' fuel listed E H Q := k
theorem Val.makeFunc {fn : FuncId} (hx : ev E x = some v) : Val P Γ E H ⟨dst, .makeFunc (.func fn) #[] #[x], ty, pos, after, g⟩ (.func (.func fn) #[] #[v]) := fun a w ha _ => by
  simp [execOp, Instr.makeFunc, ha.eval hx]
theorem At.callV {f : FuncId} {fx : Operand} {cap : Value} {l : List Operand} {vs : List Value} {at_ : Array TypeId} (hf : ev E fx = some (.func (.func f) #[] #[cap])) (hc : ∀ args w, (callFunc f args).run P w = .ok (.enter f args) w) (hv : evs E l = some vs) (hn : Nat.blt d Γ.n = true)
    (h : ∀ w, Rep Γ.w0 Γ.S H w → PureC P f (vs ++ [cap]) v w) (k : At Γ ((d, v) :: E) H (wpList P ops Q rest)) :
    At Γ E H (wpList P ops Q ({ dst := some d, op := .call { callee := .value fx, args := l.toArray, argTypes := at_ }, type := ty, pos, after, guard := none } :: rest)) := fun a w ha hw => by
  refine wpList_plain rfl fun K hK => ?_
  unfold Oper.wp
  have hev := ha.evals hv
  have hr : (execOp a.eval { dst := some d, op := .call { callee := .value fx, args := l.toArray, argTypes := at_ }, type := ty, pos, after, guard := none }).run P w = .ok (.enter f (vs ++ [cap]).toArray) w := by
    have e : l.toArray.map a.eval = vs.toArray := by rw [List.map_toArray, hev]
    simp [execOp, resolve, ha.eval hf, Deferred.ofValue, Sem.run_bind, invoke, hev, hc]
  rw [hr]
  simp only [Oper.upon]
  refine (h w hw).mono fun e w' ⟨he, hm⟩ => ?_
  subst he
  exact hK _ _ (k _ _ (ha.put d v hn) (hw.garbage hm))
theorem At.idxF {α : Type} {f : α → Value} {t el : Nat} {l : List α} {k : IntKind} {j : Int} (h : Rd Γ.w0 v 1 l.length (l.map f)) (hu : P.underlying t = some (.slice el)) (hs : ∀ w, (sizeOf el).run P w = .ok 1 w) (hx : ev E x = some v) (hy : ev E y = some (.int k j)) (h0 : 0 ≤ j) (h1 : j < l.length)
    (hg : g = none) (hn : Nat.blt d Γ.n = true)
    (c : ∀ b o q, l[j.toNat]? = some q → Γ.w0.cell? ⟨b, o, none⟩ = some (f q) → At Γ ((d, .pointer (some ⟨b, o, none⟩)) :: E) H (wpList P ops Q rest)) :
    At Γ E H (wpList P ops Q ({ dst := some d, op := .indexAddr t x y, type := ty, pos, after, guard := g } :: rest)) :=
  At.idxRd h hu hs hx hy h0 h1 hg hn fun b o hc => by
    have hq : l[j.toNat]? = some (l[j.toNat]'(by omega)) := List.getElem?_eq_getElem _
    exact c b o _ hq (hc 0 _ (by rw [Nat.mul_one, Nat.add_zero, List.getElem?_map, hq]; rfl))
def prC (l : List (Int × BitVec 64)) : List Value := l.flatMap fun c => [.int .i64 c.1, b64 c.2]
theorem prC_append (a b : List (Int × BitVec 64)) : prC (a ++ b) = prC a ++ prC b := by simp [prC]
theorem prC_length (a : List (Int × BitVec 64)) : (prC a).length = a.length * 2 := by induction a with
  | nil => rfl
  | cons c a ih => simp only [prC, List.flatMap_cons, List.length_append, List.length_cons] at *; rw [ih]; simp; omega
theorem prC_at : ∀ {L : List (Int × BitVec 64)} {j : Nat} {c : Int × BitVec 64}, L[j]? = some c → (prC L)[j * 2]? = some (.int .i64 c.1) ∧ (prC L)[j * 2 + 1]? = some (b64 c.2)
  | d :: L, 0, c, h => by
    have : d = c := by simpa using h
    subst this; exact ⟨rfl, rfl⟩
  | d :: L, j + 1, c, h => by
    have h' : L[j]? = some c := by simpa using h
    have := prC_at h'
    rw [show (j + 1) * 2 = j * 2 + 1 + 1 by omega]
    exact this
theorem prC_one (l : List (Int × BitVec 64)) : ∀ u ∈ prC l, u.oneCell' = true := fun u hu => by
  unfold prC at hu
  obtain ⟨c, _, hc⟩ := List.mem_flatMap.1 hu
  rcases List.mem_cons.1 hc with rfl | hc
  · rfl
  · obtain rfl := List.mem_singleton.1 hc
    rfl
theorem prC_take : ∀ (l : List (Int × BitVec 64)) (k : Nat), prC (l.take k) = (prC l).take (k * 2)
  | [], k => by simp [prC]
  | c :: l, 0 => by simp [prC]
  | c :: l, k + 1 => by
    rw [List.take_succ_cons, show (k + 1) * 2 = k * 2 + 1 + 1 by omega]
    simp only [prC, List.flatMap_cons, List.cons_append, List.nil_append, List.take_succ_cons]
    have := prC_take l k
    unfold prC at this
    rw [this]
abbrev RdP (w : World) (v : Value) (l : List (Int × BitVec 64)) : Prop := Rd w v 2 l.length (prC l)
abbrev prow (e : Nat) (v : Value) (l : List (Int × BitVec 64)) : Res := rowR v e 2 l.length (prC l)
theorem At.idxP {t el : Nat} {l : List (Int × BitVec 64)} {k : IntKind} {j : Int} (h : RdP Γ.w0 v l) (hu : P.underlying t = some (.slice el)) (hs : ∀ w, (sizeOf el).run P w = .ok 2 w) (hx : ev E x = some v) (hy : ev E y = some (.int k j)) (h0 : 0 ≤ j) (h1 : j < l.length)
    (hg : g = none) (hn : Nat.blt d Γ.n = true)
    (c : ∀ b o q, l[j.toNat]? = some q → Γ.w0.cell? ⟨b, o, none⟩ = some (.int .i64 q.1) → Γ.w0.cell? ⟨b, o + 1, none⟩ = some (b64 q.2) → At Γ ((d, .pointer (some ⟨b, o, none⟩)) :: E) H (wpList P ops Q rest)) :
    At Γ E H (wpList P ops Q ({ dst := some d, op := .indexAddr t x y, type := ty, pos, after, guard := g } :: rest)) :=
  At.idxRd h hu hs hx hy h0 h1 hg hn fun b o hc => by
    have hq : l[j.toNat]? = some (l[j.toNat]'(by omega)) := List.getElem?_eq_getElem _
    have hp := prC_at hq
    exact c b o _ hq (hc 0 _ hp.1) (hc 1 _ hp.2)
theorem QAt.idxP {t el : Nat} {l : List (Int × BitVec 64)} {k : IntKind} {j : Int} (h : RdP Γ.w0 v l) (hu : P.underlying t = some (.slice el)) (hs : ∀ w, (sizeOf el).run P w = .ok 2 w) (hx : ev E x = some v) (hy : ev E y = some (.int k j)) (h0 : 0 ≤ j) (h1 : j < l.length)
    (hg : g = none) (hn : Nat.blt d Γ.n = true)
    (c : ∀ b o q, l[j.toNat]? = some q → Γ.w0.cell? ⟨b, o, none⟩ = some (.int .i64 q.1) → Γ.w0.cell? ⟨b, o + 1, none⟩ = some (b64 q.2) → QAt P Γ ops ((d, .pointer (some ⟨b, o, none⟩)) :: E) H rest ψ) :
    QAt P Γ ops E H ({ dst := some d, op := .indexAddr t x y, type := ty, pos, after, guard := g } :: rest) ψ :=
  QAt.idxRd h hu hs hx hy h0 h1 hg hn fun b o hc => by
    have hq : l[j.toNat]? = some (l[j.toNat]'(by omega)) := List.getElem?_eq_getElem _
    have hp := prC_at hq
    exact c b o _ hq (hc 0 _ hp.1) (hc 1 _ hp.2)
theorem Val.loadPair {t b o : Nat} {q : Int × BitVec 64} (hA : ∀ w, (isAgg t).run P w = .ok true w) (hs : ∀ w, (sizeOf t).run P w = .ok 2 w) (hx : ev E x = some (.pointer (some ⟨b, o, none⟩))) (h0 : Γ.w0.cell? ⟨b, o, none⟩ = some (.int .i64 q.1)) (h1 : Γ.w0.cell? ⟨b, o + 1, none⟩ = some (b64 q.2)) (hS : ¬ Γ.S b) :
    Val P Γ E H ⟨dst, .load t x, ty, pos, after, g⟩ (.agg #[.int .i64 q.1, b64 q.2]) :=
  Val.loadOldPart (vs := [.int .i64 q.1, b64 q.2]) hA hs hx rfl (fun j u hj => by
    match j, hj with
    | 0, hj => (obtain rfl := Option.some.inj hj; exact h0)
    | 1, hj => (obtain rfl := Option.some.inj hj; exact h1)) hS
theorem At.rowNilP (e : Nat) {φ : Act → World → Prop} (k : At Γ E (prow e (.slice none 0 0) [] :: H) φ) : At Γ E H φ := At.rowNil e 2 k
theorem prow_snoc (e : Nat) (v : Value) (l : List (Int × BitVec 64)) (a : Int) (x : BitVec 64) : rowR v e 2 (l.length + 1) (prC l ++ [.int .i64 a, b64 x]) = prow e v (l ++ [(a, x)]) := by
  unfold prow; rw [prC_append, List.length_append]; rfl
theorem At.appendP1 {i j t e by_ b U : Nat} {ti : TypeInfo} {z : Value} {l : List (Int × BitVec 64)} {a : Int} {w' : BitVec 64} (ht : P.underlying t = some (.slice e)) (hti : P.info? e = some ti) (hz : ti.zero = some z) (hsize : ti.size = 2) (hby : ti.bytes = by_) (hzs : z.cells.size = 2)
    (hx : ev E x = some v) (hy : ev E y = some (.slice (some ⟨b, 0, none⟩) 1 1)) (hi : H[i]? = some (rowR v e 2 l.length (prC l))) (hj : H[j]? = some (blk b U [.int .i64 a, b64 w'])) (h63 : (l.length + 1) * by_ ≤ 140737488355328) (h64 : l.length + 1 ≤ 140737488355328) (hn : Nat.blt d Γ.n = true)
    (k : ∀ v', At Γ ((d, v') :: E) (H.set i (prow e v' (l ++ [(a, w')]))) (wpList P ops Q rest)) :
    At Γ E H (wpList P ops Q ({ dst := some d, op := .call { callee := .builtin .append, args := #[x, y], argTypes := #[t, t] }, type := ty, pos, after, guard := none } :: rest)) :=
  At.append (i := i) (ys := [.int .i64 a, b64 w']) ht hti hz hsize hby hzs rfl hx hy hi rfl (fun w hw j' u hj' => by rw [Nat.zero_add]; exact ((hw.blk hj).cell j').trans hj') (by simp [Value.oneCell']) h63 h64 hn fun v' => by
    have := k v'
    rw [← prow_snoc] at this
    exact this
theorem At.appendRdP {i t e by_ : Nat} {ti : TypeInfo} {z : Value} {l m : List (Int × BitVec 64)} (ht : P.underlying t = some (.slice e)) (hti : P.info? e = some ti) (hz : ti.zero = some z) (hsize : ti.size = 2) (hby : ti.bytes = by_) (hzs : z.cells.size = 2)
    (hx : ev E x = some v) (hy : ev E y = some vy) (hi : H[i]? = some (rowR v e 2 l.length (prC l))) (hr : RdP Γ.w0 vy m) (ho : Off vy (prC m) Γ.S) (h63 : (l.length + m.length) * by_ ≤ 140737488355328) (h64 : l.length + m.length ≤ 140737488355328) (hn : Nat.blt d Γ.n = true)
    (k : ∀ v', At Γ ((d, v') :: E) (H.set i (prow e v' (l ++ m))) (wpList P ops Q rest)) :
    At Γ E H (wpList P ops Q ({ dst := some d, op := .call { callee := .builtin .append, args := #[x, y], argTypes := #[t, t] }, type := ty, pos, after, guard := none } :: rest)) :=
  At.appendRd ht hti hz hsize hby hzs rfl hx hy hi hr ho (prC_one m) h63 h64 hn fun v' => by
    have := k v'
    simpa only [prow, prC_append, List.length_append] using this
theorem At.cutP {t el : Nat} {L : List (Int × BitVec 64)} {hi : Option Operand} (h : Nat) (hr : RdP Γ.w0 v L) (hu : P.underlying t = some (.slice el)) (hs : ∀ w, (sizeOf el).run P w = .ok 2 w) (hx : ev E x = some v) (hh : Bd E hi L.length h) (h2 : h ≤ L.length)
    (hg : g = none) (hn : Nat.blt d Γ.n = true) (k : ∀ v', RdP Γ.w0 v' (L.take h) → At Γ ((d, v') :: E) H (wpList P ops Q rest)) :
    At Γ E H (wpList P ops Q ({ dst := some d, op := .slice t x .none hi .none, type := ty, pos, after, guard := g } :: rest)) := by
  have hr0 := hr
  obtain ⟨A, c, rfl, _⟩ := hr
  refine At.val (Val.cutRd (lo := .none) (l := 0) hr0 hu hs hx rfl hh (Nat.zero_le _) h2) hg rfl hn (k _ ?_)
  have := Rd.cut hr0 (Nat.zero_le h) h2
  simp only [Nat.zero_mul, List.drop_zero, Nat.sub_zero] at this ⊢
  unfold RdP
  rw [prC_take, List.length_take, Nat.min_eq_left h2]
  exact this
abbrev wrow (e : Nat) (v : Value) (l : List (BitVec 64)) : Res := rowR v e 1 l.length (l.map b64)
abbrev RdW (w : World) (v : Value) (l : List (BitVec 64)) : Prop := Rd w v 1 l.length (l.map b64)
theorem At.rowNilW (e : Nat) {φ : Act → World → Prop} (k : At Γ E (wrow e (.slice none 0 0) [] :: H) φ) : At Γ E H φ := At.rowNil e 1 k
theorem At.appendWs {i j t e by_ b U m : Nat} {ti : TypeInfo} {z : Value} {l ms : List (BitVec 64)} (ht : P.underlying t = some (.slice e)) (hti : P.info? e = some ti) (hz : ti.zero = some z) (hsize : ti.size = 1) (hby : ti.bytes = by_) (hzs : z.cells.size = 1)
    (hx : ev E x = some v) (hy : ev E y = some (.slice (some ⟨b, 0, none⟩) m m)) (hi : H[i]? = some (rowR v e 1 l.length (l.map b64))) (hm : ms.length = m) (hj : H[j]? = some (blk b U (ms.map b64))) (h63 : (l.length + m) * by_ ≤ 140737488355328) (h64 : l.length + m ≤ 140737488355328) (hn : Nat.blt d Γ.n = true)
    (k : ∀ v', At Γ ((d, v') :: E) (H.set i (wrow e v' (l ++ ms))) (wpList P ops Q rest)) :
    At Γ E H (wpList P ops Q ({ dst := some d, op := .call { callee := .builtin .append, args := #[x, y], argTypes := #[t, t] }, type := ty, pos, after, guard := none } :: rest)) :=
  At.append (i := i) (ys := ms.map b64) ht hti hz hsize hby hzs rfl hx hy hi (by rw [List.length_map, hm, Nat.mul_one]) (fun w hw j' u hj' => by rw [Nat.zero_add]; exact ((hw.blk hj).cell j').trans hj') (fun u hu => by obtain ⟨c, _, rfl⟩ := List.mem_map.1 hu; rfl) h63 h64 hn fun v' => by
    have := k v'
    unfold wrow at this
    rw [List.map_append, List.length_append, hm] at this
    exact this
theorem Holds.words {w : World} {b T n : Nat} {l : List (BitVec 64)} (h : Holds w b T (l.map b64)) (hn : l.length = n) : Rd w (.slice (some ⟨b, 0, none⟩) n n) 1 l.length (l.map b64) := by
  subst hn
  refine ⟨_, _, rfl, fun j u hj => ⟨b, 0, rfl, by rw [Nat.zero_add]; exact (h.cell j).trans hj⟩, by simp, Nat.le_refl _, (fun e => by cases e), (fun _ a e => by cases e; rfl)⟩
theorem storeCells_row {w0 : World} {S : Nat → Prop} {i e sz n : Nat} : ∀ (vs : List Value) (o j : Nat) (xs : List Value) (H : List Res) (w : World), Rep w0 S H w → H[i]? = some (rowR v e sz n xs) → o + j + vs.length ≤ xs.length → (∀ u ∈ vs, u.oneCell' = true) →
    ∃ w', (storeCells ⟨rowB v, o, none⟩ vs j).run P w = .ok () w' ∧ Rep w0 S (H.set i (rowR v e sz n (putAt xs (o + j) vs))) w' := by
  intro vs
  induction vs with
  | nil =>
    intro o j xs H w hw hi ho _
    refine ⟨w, by simp [storeCells], ?_⟩
    have e1 : putAt xs (o + j) [] = xs := by simp [putAt]
    have e2 : H.set i (rowR v e sz n xs) = H := by
      apply List.ext_getElem?
      intro q
      rw [List.getElem?_set]
      split
      · rename_i e; subst e
        split
        · rw [hi]
        · rename_i hn; rw [List.getElem?_eq_none (by omega)]
      · rfl
    rw [e1, e2]; exact hw
  | cons u vs ih =>
    intro o j xs H w hw hi ho h1
    simp only [List.length_cons] at ho
    have hlt : o + j < xs.length := by omega
    have hown : w.ownsRow 0 e sz v n xs := hw.row hi
    have hc := row_cell hown (List.getElem?_eq_getElem hlt)
    have hf := row_frozen hown (List.getElem?_eq_getElem hlt)
    have hset : Rep w0 S (H.set i (rowR v e sz n (xs.set (o + j) u))) (w.setCell ⟨rowB v, o + j, none⟩ u) := by
      refine hw.change (r' := rowR v e sz n (xs.set (o + j) u)) hi ((Mod.setCell w _ _).mono fun b hb => ?_) (row_set hown hlt u) (fun b hb => .inl hb)
      rcases hown.2 with ⟨rfl, rfl⟩ | ⟨c, cap, cur, rfl, _⟩
      · have := hown.1; simp at this; rw [this] at hlt; simp at hlt
      · simp only [rowR, rowB, Value.ownBlock, Option.getD_some] at hb ⊢
        rw [hb]
    have hi' : (H.set i (rowR v e sz n (xs.set (o + j) u)))[i]? = some (rowR v e sz n (xs.set (o + j) u)) := by
      rw [List.getElem?_set]; simp; exact (List.getElem?_eq_some_iff.1 hi).1
    obtain ⟨w', hr, hw'⟩ := ih o (j + 1) _ _ _ hset hi' (by simp; omega) (fun u' hu => h1 u' (List.mem_cons_of_mem _ hu))
    refine ⟨w', ?_, ?_⟩
    · have h1v := h1 u (List.mem_cons_self ..)
      have hadd : (⟨rowB v, o, none⟩ : Addr).add j = ⟨rowB v, o + j, none⟩ := by unfold Addr.add; split <;> simp_all
      simp only [storeCells, Sem.run_bind, hadd]
      have : (store ⟨rowB v, o + j, none⟩ u).run P w = .ok () (w.setCell ⟨rowB v, o + j, none⟩ u) := by
        cases u <;> simp_all [store, Sem.run, Value.oneCell']
      rw [this, Result.andThen_ok, hr]
    · rw [List.set_set] at hw'
      have e1 : putAt (xs.set (o + j) u) (o + (j + 1)) vs = putAt xs (o + j) (u :: vs) := by
        unfold putAt
        rw [List.length_cons, List.drop_set_of_lt (by omega), show o + (j + 1) + vs.length = o + j + (vs.length + 1) by omega, show o + (j + 1) = (o + j) + 1 by omega, List.take_add_one, List.take_set_of_le (Nat.le_refl _), List.getElem?_set]
        simp [hlt]
      rw [e1] at hw'
      exact hw'
theorem At.rowSome {i e sz n : Nat} {xs : List Value} {φ : Act → World → Prop} (hi : H[i]? = some (rowR v e sz n xs)) (hn : 0 < n) (k : ∀ b c, v = .slice (some ⟨b, 0, none⟩) n c → At Γ E H φ) : At Γ E H φ := fun a w ha hw => by
  rcases (hw.row hi).2 with ⟨_, h⟩ | ⟨b, cap, cur, h, _⟩
  · omega
  · exact k b cap h a w ha hw
theorem At.copyToRow {i j dT sT e e' sz N C m c o b n : Nat} {xs ys : List Value} (ht : P.underlying dT = some (.slice e)) (hz : ∀ w, (sizeOf e).run P w = .ok 1 w)
    (hx : ev E x = some (.slice (some ⟨b, o, none⟩) m c)) (hy : ev E y = some u) (hi : H[i]? = some (rowR (.slice (some ⟨b, 0, none⟩) N C) e' sz N xs)) (hj : H[j]? = some (rowR u e' 1 n ys)) (hn0 : 0 < n) (hm : n ≤ m) (ho : o + n ≤ xs.length) (h1 : ∀ u ∈ ys, u.oneCell' = true) (hn : Nat.blt d Γ.n = true)
    (k : At Γ ((d, .int .i64 n) :: E) (H.set i (rowR (.slice (some ⟨b, 0, none⟩) N C) e' sz N (putAt xs o ys))) (wpList P ops Q rest)) :
    At Γ E H (wpList P ops Q ({ dst := some d, op := .call { callee := .builtin .copy, args := #[x, y], argTypes := #[dT, sT] }, type := ty, pos, after, guard := none } :: rest)) :=
  At.run rfl rfl hn fun a w ha hw => by
    have hsrc := hw.row hj
    have hl : ys.length = n := by have := hsrc.1; omega
    obtain ⟨w', hr, hw'⟩ := storeCells_row (P := P) ys o 0 xs H w hw hi (by omega) h1
    rcases hsrc.2 with ⟨_, h⟩ | ⟨b', cap', cur', rfl, _⟩
    · omega
    have hld := run_loadCells_list (P := P) w ⟨b', 0, none⟩ ys (fun j u hu => by
      have := row_cell hsrc (q := j) hu
      rw [Addr.add_off, Nat.zero_add]; exact this)
    refine ⟨.int .i64 n, w', _, ?_, hw', k⟩
    have h0 : (Builtin.copy_ #[dT, sT] ty #[.slice (some ⟨b, o, none⟩) m c, .slice (some ⟨b', 0, none⟩) n cap']).run P w = .ok (goInt n) w' := by
      subst hl
      have hr' : (storeCells ⟨b, o, none⟩ ys 0).run P w = .ok () w' := hr
      have hmin : Nat.min ys.length m = ys.length := Nat.min_eq_left hm
      have hmin' : min ys.length m = ys.length := Nat.min_eq_left hm
      have hmin2 : min m ys.length = ys.length := Nat.min_eq_right hm
      simp [Builtin.copy_, run_underlying ht, Builtin.lenOf, Builtin.firstCells, hz, hmin, hmin', hmin2, hld, hr', hm]
    simp [execOp, resolve, invoke, builtin, ha.eval hx, ha.eval hy, Sem.run_bind, h0, goInt]
theorem putAt_map {l m : List UInt8} (o : Nat) : putAt (l.map bv) o (m.map bv) = (l.take o ++ m ++ l.drop (o + m.length)).map bv := by
  unfold putAt; simp [List.map_take, List.map_drop]
theorem At.copyRowB {i j dT sT e e' N C m c o b : Nat} {l s : List UInt8} (ht : P.underlying dT = some (.slice e)) (hz : ∀ w, (sizeOf e).run P w = .ok 1 w)
    (hx : ev E x = some (.slice (some ⟨b, o, none⟩) m c)) (hy : ev E y = some u) (hi : H[i]? = some (rowR (.slice (some ⟨b, 0, none⟩) N C) e' 1 N (l.map bv))) (hj : H[j]? = some (rowR u e' 1 s.length (s.map bv))) (hn0 : 0 < s.length) (hm : s.length ≤ m) (ho : o + s.length ≤ l.length) (hn : Nat.blt d Γ.n = true)
    (k : At Γ ((d, .int .i64 s.length) :: E) (H.set i (rowR (.slice (some ⟨b, 0, none⟩) N C) e' 1 N ((l.take o ++ s ++ l.drop (o + s.length)).map bv))) (wpList P ops Q rest)) :
    At Γ E H (wpList P ops Q ({ dst := some d, op := .call { callee := .builtin .copy, args := #[x, y], argTypes := #[dT, sT] }, type := ty, pos, after, guard := none } :: rest)) :=
  At.copyToRow (u := u) ht hz hx hy hi hj hn0 hm (by rw [List.length_map]; exact ho) (bv_one s) hn (by rw [putAt_map]; exact k)
theorem At.appendBlkB {i j t e by_ b U n c : Nat} {ti : TypeInfo} {z : Value} {l m : List UInt8} (ht : P.underlying t = some (.slice e)) (hti : P.info? e = some ti) (hz : ti.zero = some z) (hsize : ti.size = 1) (hby : ti.bytes = by_) (hzs : z.cells.size = 1)
    (hx : ev E x = some v) (hy : ev E y = some (.slice (some ⟨b, 0, none⟩) n c)) (hi : H[i]? = some (rowR v e 1 l.length (l.map bv))) (hj : H[j]? = some (blk b U (m.map bv))) (hm : m.length = n) (h63 : (l.length + n) * by_ ≤ 140737488355328) (h64 : l.length + n ≤ 140737488355328) (hn : Nat.blt d Γ.n = true)
    (k : ∀ v', At Γ ((d, v') :: E) (H.set i (brow e v' (l ++ m))) (wpList P ops Q rest)) :
    At Γ E H (wpList P ops Q ({ dst := some d, op := .call { callee := .builtin .append, args := #[x, y], argTypes := #[t, t] }, type := ty, pos, after, guard := none } :: rest)) :=
  At.append (i := i) (ys := m.map bv) ht hti hz hsize hby hzs rfl hx hy hi (by rw [List.length_map, hm, Nat.mul_one]) (fun w hw j' u hj' => by rw [Nat.zero_add]; exact ((hw.blk hj).cell j').trans hj') (bv_one m) h63 h64 hn fun v' => by
    have := k v'
    unfold brow at this
    rw [List.map_append, List.length_append, hm] at this
    exact this
theorem Mod.cell {w w' : World} (h : Mod (fun _ => False) w w') {p : Addr} {v : Value} (hc : w.cell? p = some v) : w'.cell? p = some v := by
  have hr : Rep w (fun _ => False) [] w' := ⟨by simp, by simp, by simp, h⟩
  exact hr.oldCell hc (fun h => h)
theorem At.rowOne {i e sz n : Nat} {xs : List Value} {φ : Act → World → Prop} (hi : H[i]? = some (rowR v e sz n xs)) (k : v.oneCell' = true → At Γ E H φ) : At Γ E H φ := fun a w ha hw => by
  rcases (hw.row hi).2 with ⟨h, _⟩ | ⟨b, cap, cur, h, _⟩ <;> exact k (by rw [h]; rfl) a w ha hw
theorem Rep.f0 {w0 w : World} {H : List Res} (h : Rep w0 (fun _ => False) H w) : Rep w0 (feet []) H w := by
  have e : feet [] = fun _ => False := funext fun b => by simp [feet]
  rw [e]; exact h
theorem Rep.nilRow {w0 w : World} {S : Nat → Prop} {H : List Res} (h : Rep w0 S H w) (e sz : Nat) : Rep w0 S (rowR (.slice none 0 0) e sz 0 [] :: H) w :=
  h.new (Mod.refl _ _) (World.ownsRow_nil w 0 e sz) (fun b hb => by simp [rowR, Value.ownBlock] at hb)
theorem Rep.newBlk {w0 w : World} {H : List Res} {i b T L : Nat} {cs : List Value} (h : Rep w0 (fun _ => False) H w) (hi : H[i]? = some (Wk.blk b T cs)) (hL : L < w0.heap.size) : L ≠ b := fun e => by
  rcases h.mine _ (List.mem_of_getElem? hi) b rfl with h1 | h1
  · omega
  · exact h1
theorem RdB.some {w : World} {v : Value} {l : List UInt8} (h : RdB w v l) (h0 : 0 < l.length) : ∃ L o c, v = .slice (some ⟨L, o, none⟩) l.length c ∧ Bytes w (some ⟨L, o, none⟩) l ∧ l.length ≤ c ∧ L < w.heap.size := by
  obtain ⟨A, c, h1, h2, h3, h4, h5⟩ := h.bytes
  obtain ⟨b, o, e, hc⟩ := h2 0 _ (List.getElem?_eq_getElem h0)
  subst e
  exact ⟨b, o, c, h1, h2, h3, block_lt_of_cell hc⟩
end
end Go.Wk
namespace Go.Wk
open Go Go.ChangeShapes Go.WideShapes Go.ChangeAt Go.RowKit
section
variable {H : Type} {enc : TypeId × Value → H} {P : Program} {W : World} {r : Reach} {base b0 : Nat} {sp : Nat → Bool} {held : Bool}
end
end Go.Wk
namespace Go.Wk
open Go
section
variable {P : Program} {Γ : Ctx} {E E' : Env} {H : List Res} {ops : Array Oper} {Q : Exit → Act → World → Prop} {rest : List Oper}
  {d : Nat} {ty : TypeId} {pos : String} {after : Array Edge} {x y : Operand} {v : Value}
theorem prC_drop (l : List (Int × BitVec 64)) (k : Nat) (hk : k ≤ l.length) : (prC l).drop (k * 2) = prC (l.drop k) := by
  have h : prC l = prC (l.take k) ++ prC (l.drop k) := by rw [← prC_append, List.take_append_drop]
  have hl : (prC (l.take k)).length = k * 2 := by rw [prC_length, List.length_take, Nat.min_eq_left hk]
  rw [h, ← hl, List.drop_left]
theorem prC_set (l : List (Int × BitVec 64)) (k : Nat) (a : Int) (b : BitVec 64) (hk : k < l.length) : putAt (prC l) (k * 2) [.int .i64 a, b64 b] = prC (l.set k (a, b)) := by
  rw [List.set_eq_take_append_cons_drop, if_pos hk, prC_append, prC_take]
  unfold putAt
  rw [List.append_assoc]
  congr 1
  rw [show k * 2 + [Value.int .i64 a, b64 b].length = (k + 1) * 2 by simp; omega, prC_drop _ _ (by omega)]
  rfl
theorem At.storePairRow {i t e k : Nat} {a : Int} {b : BitVec 64} {l : List (Int × BitVec 64)} (hs : ∀ w, (sizeOf t).run P w = .ok 2 w) (hx : ev E x = some (.pointer (some ⟨rowB v, k * 2, none⟩))) (hy : ev E y = some (.agg #[.int .i64 a, b64 b])) (hi : H[i]? = some (rowR v e 2 l.length (prC l))) (hk : k < l.length)
    (kk : At Γ E (H.set i (prow e v (l.set k (a, b)))) (wpList P ops Q rest)) : At Γ E H (wpList P ops Q ({ dst := .none, op := .store t x y, type := ty, pos, after, guard := none } :: rest)) :=
  At.skip rfl rfl fun a' w ha hw => by
    obtain ⟨w', hr, hw'⟩ := storeCells_row (P := P) [.int .i64 a, b64 b] (k * 2) 0 (prC l) H w hw hi (by rw [prC_length]; simp; omega) (by simp [Value.oneCell', b64])
    rw [Nat.add_zero, prC_set l k a b hk] at hw'
    refine ⟨w', _, ?_, hw', ?_⟩
    · simp [execOp, ha.eval hx, ha.eval hy, Sem.run_bind, Instr.storeAt, Instr.sureAddr, storeVar, hs, Value.cells, hr]
    · have := kk
      unfold prow at this
      rwa [List.length_set] at this
end
end Go.Wk
namespace Go.Wk
open Go
section
variable {P : Program} {Γ : Ctx} {E E' : Env} {H HS : List Res} {ops : Array Oper} {Q : Exit → Act → World → Prop} {rest : List Oper}
  {d : Nat} {dst : Option Tmp} {ty : TypeId} {pos : String} {after : Array Edge} {x y z : Operand} {v u vy : Value} {g : Option (Nat × Bool)} {ψ : Act → Prop} {t' fuel : Nat} {listed : Array Bool}
def prS (l : List (Int × Int)) : List Value := l.flatMap fun c => [.int .i64 c.1, .int .i64 c.2]
theorem prS_append (a b : List (Int × Int)) : prS (a ++ b) = prS a ++ prS b := by simp [prS]
theorem prS_length (a : List (Int × Int)) : (prS a).length = a.length * 2 := by induction a with
  | nil => rfl
  | cons c a ih => simp only [prS, List.flatMap_cons, List.length_append, List.length_cons] at *; rw [ih]; simp; omega
theorem prS_at : ∀ {L : List (Int × Int)} {j : Nat} {c : Int × Int}, L[j]? = some c → (prS L)[j * 2]? = some (.int .i64 c.1) ∧ (prS L)[j * 2 + 1]? = some (.int .i64 c.2)
  | d :: L, 0, c, h => by
    have : d = c := by simpa using h
    subst this; exact ⟨rfl, rfl⟩
  | d :: L, j + 1, c, h => by
    have h' : L[j]? = some c := by simpa using h
    have := prS_at h'
    rw [show (j + 1) * 2 = j * 2 + 1 + 1 by omega]
    exact this
theorem prS_one (l : List (Int × Int)) : ∀ u ∈ prS l, u.oneCell' = true := fun u hu => by
  unfold prS at hu
  obtain ⟨c, _, hc⟩ := List.mem_flatMap.1 hu
  rcases List.mem_cons.1 hc with rfl | hc
  · rfl
  · obtain rfl := List.mem_singleton.1 hc
    rfl
theorem prS_take : ∀ (l : List (Int × Int)) (k : Nat), prS (l.take k) = (prS l).take (k * 2)
  | [], k => by simp [prS]
  | c :: l, 0 => by simp [prS]
  | c :: l, k + 1 => by
    rw [List.take_succ_cons, show (k + 1) * 2 = k * 2 + 1 + 1 by omega]
    simp only [prS, List.flatMap_cons, List.cons_append, List.nil_append, List.take_succ_cons]
    have := prS_take l k
    unfold prS at this
    rw [this]
abbrev RdS (w : World) (v : Value) (l : List (Int × Int)) : Prop := Rd w v 2 l.length (prS l)
abbrev srow (e : Nat) (v : Value) (l : List (Int × Int)) : Res := rowR v e 2 l.length (prS l)
theorem At.idxS {t el : Nat} {l : List (Int × Int)} {k : IntKind} {j : Int} (h : RdS Γ.w0 v l) (hu : P.underlying t = some (.slice el)) (hs : ∀ w, (sizeOf el).run P w = .ok 2 w) (hx : ev E x = some v) (hy : ev E y = some (.int k j)) (h0 : 0 ≤ j) (h1 : j < l.length)
    (hg : g = none) (hn : Nat.blt d Γ.n = true)
    (c : ∀ b o q, l[j.toNat]? = some q → Γ.w0.cell? ⟨b, o, none⟩ = some (.int .i64 q.1) → Γ.w0.cell? ⟨b, o + 1, none⟩ = some (.int .i64 q.2) → At Γ ((d, .pointer (some ⟨b, o, none⟩)) :: E) H (wpList P ops Q rest)) :
    At Γ E H (wpList P ops Q ({ dst := some d, op := .indexAddr t x y, type := ty, pos, after, guard := g } :: rest)) :=
  At.idxRd h hu hs hx hy h0 h1 hg hn fun b o hc => by
    have hq : l[j.toNat]? = some (l[j.toNat]'(by omega)) := List.getElem?_eq_getElem _
    have hp := prS_at hq
    exact c b o _ hq (hc 0 _ hp.1) (hc 1 _ hp.2)
theorem QAt.idxS {t el : Nat} {l : List (Int × Int)} {k : IntKind} {j : Int} (h : RdS Γ.w0 v l) (hu : P.underlying t = some (.slice el)) (hs : ∀ w, (sizeOf el).run P w = .ok 2 w) (hx : ev E x = some v) (hy : ev E y = some (.int k j)) (h0 : 0 ≤ j) (h1 : j < l.length)
    (hg : g = none) (hn : Nat.blt d Γ.n = true)
    (c : ∀ b o q, l[j.toNat]? = some q → Γ.w0.cell? ⟨b, o, none⟩ = some (.int .i64 q.1) → Γ.w0.cell? ⟨b, o + 1, none⟩ = some (.int .i64 q.2) → QAt P Γ ops ((d, .pointer (some ⟨b, o, none⟩)) :: E) H rest ψ) :
    QAt P Γ ops E H ({ dst := some d, op := .indexAddr t x y, type := ty, pos, after, guard := g } :: rest) ψ :=
  QAt.idxRd h hu hs hx hy h0 h1 hg hn fun b o hc => by
    have hq : l[j.toNat]? = some (l[j.toNat]'(by omega)) := List.getElem?_eq_getElem _
    have hp := prS_at hq
    exact c b o _ hq (hc 0 _ hp.1) (hc 1 _ hp.2)
theorem Val.loadSpan {t b o : Nat} {q : Int × Int} (hA : ∀ w, (isAgg t).run P w = .ok true w) (hs : ∀ w, (sizeOf t).run P w = .ok 2 w) (hx : ev E x = some (.pointer (some ⟨b, o, none⟩))) (h0 : Γ.w0.cell? ⟨b, o, none⟩ = some (.int .i64 q.1)) (h1 : Γ.w0.cell? ⟨b, o + 1, none⟩ = some (.int .i64 q.2)) (hS : ¬ Γ.S b) :
    Val P Γ E H ⟨dst, .load t x, ty, pos, after, g⟩ (.agg #[.int .i64 q.1, .int .i64 q.2]) :=
  Val.loadOldPart (vs := [.int .i64 q.1, .int .i64 q.2]) hA hs hx rfl (fun j u hj => by
    match j, hj with
    | 0, hj => (obtain rfl := Option.some.inj hj; exact h0)
    | 1, hj => (obtain rfl := Option.some.inj hj; exact h1)) hS
theorem At.rowNilS (e : Nat) {φ : Act → World → Prop} (k : At Γ E (srow e (.slice none 0 0) [] :: H) φ) : At Γ E H φ := At.rowNil e 2 k
theorem srow_snoc (e : Nat) (v : Value) (l : List (Int × Int)) (a : Int) (x : Int) : rowR v e 2 (l.length + 1) (prS l ++ [.int .i64 a, .int .i64 x]) = srow e v (l ++ [(a, x)]) := by
  unfold srow; rw [prS_append, List.length_append]; rfl
theorem At.appendS1 {i j t e by_ b U : Nat} {ti : TypeInfo} {z : Value} {l : List (Int × Int)} {a : Int} {w' : Int} (ht : P.underlying t = some (.slice e)) (hti : P.info? e = some ti) (hz : ti.zero = some z) (hsize : ti.size = 2) (hby : ti.bytes = by_) (hzs : z.cells.size = 2)
    (hx : ev E x = some v) (hy : ev E y = some (.slice (some ⟨b, 0, none⟩) 1 1)) (hi : H[i]? = some (rowR v e 2 l.length (prS l))) (hj : H[j]? = some (blk b U [.int .i64 a, .int .i64 w'])) (h63 : (l.length + 1) * by_ ≤ 140737488355328) (h64 : l.length + 1 ≤ 140737488355328) (hn : Nat.blt d Γ.n = true)
    (k : ∀ v', At Γ ((d, v') :: E) (H.set i (srow e v' (l ++ [(a, w')]))) (wpList P ops Q rest)) :
    At Γ E H (wpList P ops Q ({ dst := some d, op := .call { callee := .builtin .append, args := #[x, y], argTypes := #[t, t] }, type := ty, pos, after, guard := none } :: rest)) :=
  At.append (i := i) (ys := [.int .i64 a, .int .i64 w']) ht hti hz hsize hby hzs rfl hx hy hi rfl (fun w hw j' u hj' => by rw [Nat.zero_add]; exact ((hw.blk hj).cell j').trans hj') (by simp [Value.oneCell']) h63 h64 hn fun v' => by
    have := k v'
    rw [← srow_snoc] at this
    exact this
theorem At.appendRdS {i t e by_ : Nat} {ti : TypeInfo} {z : Value} {l m : List (Int × Int)} (ht : P.underlying t = some (.slice e)) (hti : P.info? e = some ti) (hz : ti.zero = some z) (hsize : ti.size = 2) (hby : ti.bytes = by_) (hzs : z.cells.size = 2)
    (hx : ev E x = some v) (hy : ev E y = some vy) (hi : H[i]? = some (rowR v e 2 l.length (prS l))) (hr : RdS Γ.w0 vy m) (ho : Off vy (prS m) Γ.S) (h63 : (l.length + m.length) * by_ ≤ 140737488355328) (h64 : l.length + m.length ≤ 140737488355328) (hn : Nat.blt d Γ.n = true)
    (k : ∀ v', At Γ ((d, v') :: E) (H.set i (srow e v' (l ++ m))) (wpList P ops Q rest)) :
    At Γ E H (wpList P ops Q ({ dst := some d, op := .call { callee := .builtin .append, args := #[x, y], argTypes := #[t, t] }, type := ty, pos, after, guard := none } :: rest)) :=
  At.appendRd ht hti hz hsize hby hzs rfl hx hy hi hr ho (prS_one m) h63 h64 hn fun v' => by
    have := k v'
    simpa only [srow, prS_append, List.length_append] using this
theorem prS_drop (l : List (Int × Int)) (k : Nat) (hk : k ≤ l.length) : (prS l).drop (k * 2) = prS (l.drop k) := by
  have h : prS l = prS (l.take k) ++ prS (l.drop k) := by rw [← prS_append, List.take_append_drop]
  have hl : (prS (l.take k)).length = k * 2 := by rw [prS_length, List.length_take, Nat.min_eq_left hk]
  rw [h, ← hl, List.drop_left]
theorem prS_set (l : List (Int × Int)) (k : Nat) (a : Int) (b : Int) (hk : k < l.length) : putAt (prS l) (k * 2) [.int .i64 a, .int .i64 b] = prS (l.set k (a, b)) := by
  rw [List.set_eq_take_append_cons_drop, if_pos hk, prS_append, prS_take]
  unfold putAt
  rw [List.append_assoc]
  congr 1
  rw [show k * 2 + [Value.int .i64 a, .int .i64 b].length = (k + 1) * 2 by simp; omega, prS_drop _ _ (by omega)]
  rfl
theorem At.storeSpanRow {i t e k : Nat} {a : Int} {b : Int} {l : List (Int × Int)} (hs : ∀ w, (sizeOf t).run P w = .ok 2 w) (hx : ev E x = some (.pointer (some ⟨rowB v, k * 2, none⟩))) (hy : ev E y = some (.agg #[.int .i64 a, .int .i64 b])) (hi : H[i]? = some (rowR v e 2 l.length (prS l))) (hk : k < l.length)
    (kk : At Γ E (H.set i (srow e v (l.set k (a, b)))) (wpList P ops Q rest)) : At Γ E H (wpList P ops Q ({ dst := .none, op := .store t x y, type := ty, pos, after, guard := none } :: rest)) :=
  At.skip rfl rfl fun a' w ha hw => by
    obtain ⟨w', hr, hw'⟩ := storeCells_row (P := P) [.int .i64 a, .int .i64 b] (k * 2) 0 (prS l) H w hw hi (by rw [prS_length]; simp; omega) (by simp [Value.oneCell'])
    rw [Nat.add_zero, prS_set l k a b hk] at hw'
    refine ⟨w', _, ?_, hw', ?_⟩
    · simp [execOp, ha.eval hx, ha.eval hy, Sem.run_bind, Instr.storeAt, Instr.sureAddr, storeVar, hs, Value.cells, hr]
    · have := kk
      unfold srow at this
      rwa [List.length_set] at this
end
end Go.Wk
namespace Go.Wk
open Go Go.ChangeShapes Go.WideShapes Go.ChangeAt Go.RowKit
section
variable {H : Type} {enc : TypeId × Value → H} {P : Program} {W : World} {r : Reach} {base b0 : Nat} {sp : Nat → Bool} {held : Bool}
end
end Go.Wk
namespace Go.Wk
open Go Go.ChangeMaps
section
variable {P : Program} {Γ : Ctx} {E : Env} {H L F : List Res} {ops : Array Oper} {Q : Exit → Act → World → Prop} {rest : List Oper} {w0 w w' : World} {S : Nat → Prop} {φ : Act → World → Prop}
  {d : Nat} {dst : Option Tmp} {g : Option (Nat × Bool)} {ty : TypeId} {pos : String} {after : Array Edge} {x y z : Operand} {v u : Value}
def star (L : List Res) : Res where
  foot := feet L
  holds := fun w => L.Pairwise Apart ∧ ∀ r ∈ L, r.holds w
  stable := fun h hw => ⟨hw.1, fun r hr => r.stable (fun b hb => h b ⟨r, hr, hb⟩) (hw.2 r hr)⟩
  low := fun hw b ⟨r, hr, hb⟩ => r.low (hw.2 r hr) b hb
theorem Rep.openS (h : Rep w0 S (star L :: F) w) : Rep w0 S (L ++ F) w := by
  have hs := List.pairwise_cons.1 h.sep
  have hl := h.all (star L) (List.mem_cons_self ..)
  refine ⟨List.pairwise_append.2 ⟨hl.1, hs.2, fun r hr s hs' b hb hsb => hs.1 s hs' b ⟨r, hr, hb⟩ hsb⟩, fun r hr => ?_, fun r hr b hb => ?_, h.mod⟩
  · rcases List.mem_append.1 hr with h1 | h1
    · exact hl.2 r h1
    · exact h.all r (List.mem_cons_of_mem _ h1)
  · rcases List.mem_append.1 hr with h1 | h1
    · exact h.mine (star L) (List.mem_cons_self ..) b ⟨r, h1, hb⟩
    · exact h.mine r (List.mem_cons_of_mem _ h1) b hb
theorem Rep.shutS (h : Rep w0 S (L ++ F) w) : Rep w0 S (star L :: F) w := by
  have hs := List.pairwise_append.1 h.sep
  refine ⟨List.pairwise_cons.2 ⟨fun s hs' b ⟨r, hr, hb⟩ hsb => hs.2.2 r hr s hs' b hb hsb, hs.2.1⟩, fun r hr => ?_, fun r hr b hb => ?_, h.mod⟩
  · rcases List.mem_cons.1 hr with rfl | h1
    · exact ⟨hs.1, fun r hr => h.all r (List.mem_append_left _ hr)⟩
    · exact h.all r (List.mem_append_right _ h1)
  · rcases List.mem_cons.1 hr with rfl | h1
    · obtain ⟨r, hr, hb⟩ := hb
      exact h.mine r (List.mem_append_left _ hr) b hb
    · exact h.mine r (List.mem_append_right _ h1) b hb
theorem At.openS (i : Nat) (hi : H[i]? = some (star L)) (k : At Γ E (L ++ H.eraseIdx i) φ) : At Γ E H φ := fun a w ha hw => k a w ha (hw.perm (erase_perm H i _ hi)).openS
theorem At.shutS (k : At Γ E (star L :: H) φ) : At Γ E (L ++ H) φ := fun a w ha hw => k a w ha hw.shutS
theorem Rep.of_star {r : Res} (h : (star L).holds w) : Rep w (feet [star L]) L w :=
  ⟨h.1, h.2, fun r hr b hb => .inr ⟨star L, by simp, r, hr, hb⟩, Mod.refl _ _⟩
def factR (p : Prop) : Res where
  foot := fun _ => False
  holds := fun _ => p
  stable := fun _ h => h
  low := fun _ b hb => hb.elim
theorem At.fact {p : Prop} (i : Nat) (hi : H[i]? = some (factR p)) (k : p → At Γ E H φ) : At Γ E H φ := fun a w ha hw => k (hw.all _ (List.mem_of_getElem? hi)) a w ha hw
theorem Rep.fact {p : Prop} (hp : p) (h : Rep w0 S H w) : Rep w0 S (factR p :: H) w :=
  ⟨List.pairwise_cons.2 ⟨fun s _ b hb _ => hb.elim, h.sep⟩, fun r hr => by
    rcases List.mem_cons.1 hr with rfl | h1
    · exact hp
    · exact h.all r h1, fun r hr b hb => by
    rcases List.mem_cons.1 hr with rfl | h1
    · exact hb.elim
    · exact h.mine r h1 b hb, h.mod⟩
def Win (w : World) (v : Value) (e : TypeId) (xs : List Value) : Prop :=
  (v = .slice none 0 0 ∧ xs = []) ∨ ∃ b o c cur, v = .slice (some ⟨b, o, none⟩) xs.length c ∧ w.heap[b]? = some (.cells cur e (0, 0)) ∧ xs.length ≤ c ∧ c ≤ maxLen ∧ o + c ≤ cur.size ∧ ∀ j u, xs[j]? = some u → cur[o + j]? = some u
theorem Win.at {e b o n c j : Nat} {xs : List Value} (h : Win w (.slice (some ⟨b, o, none⟩) n c) e xs) (hv : xs[j]? = some u) : w.cell? ⟨b, o + j, none⟩ = some u := by
  rcases h with ⟨h1, _⟩ | ⟨b', o', c', cur, h1, hb, _, _, _, h2⟩
  · cases h1
  · simp only [Value.slice.injEq, Option.some.injEq, Addr.mk.injEq] at h1
    obtain ⟨⟨rfl, rfl, _⟩, _, _⟩ := h1
    rw [cell_of_row w _ _ cur e _ hb]
    exact h2 j u hv
end
end Go.Wk
namespace Go.Wk
open Go
structure RdF where
  v : Value
  sz : Nat
  n : Nat
  xs : List Value
def RdF.ok (f : RdF) (w : World) : Prop := Rd w f.v f.sz f.n f.xs ∧ ∀ b, f.v.ownBlock = some b → b < w.heap.size
theorem Rd.still {w w' : World} {v : Value} {sz n : Nat} {xs : List Value} (h : ∀ b, v.ownBlock = some b → w'.heap[b]? = w.heap[b]?) (hr : Rd w v sz n xs) : Rd w' v sz n xs := by
  obtain ⟨A, c, rfl, h2, h3⟩ := hr
  refine ⟨A, c, rfl, fun j u hj => ?_, h3⟩
  obtain ⟨b, o, rfl, hc⟩ := h2 j u hj
  exact ⟨b, o, rfl, (World.cell?_of_block (h b rfl)).trans hc⟩
theorem RdF.ok.still {f : RdF} {w w' : World} (h : ∀ b, f.v.ownBlock = some b → w'.heap[b]? = w.heap[b]?) (hr : f.ok w) : f.ok w' := ⟨hr.1.still h, fun b hb => by
  have h1 := hr.2 b hb
  have h2 := h b hb
  rcases Nat.lt_or_ge b w'.heap.size with h3 | h3
  · exact h3
  · rw [Array.getElem?_eq_none h3, Array.getElem?_eq_getElem h1] at h2; cases h2⟩
def readsR (L : List RdF) : Res where
  foot := fun b => ∃ f ∈ L, f.v.ownBlock = some b
  holds := fun w => ∀ f ∈ L, f.ok w
  stable := fun h hw f hf => (hw f hf).still fun b hb => h b ⟨f, hf, hb⟩
  low := fun hw b ⟨f, hf, hb⟩ => (hw f hf).2 b hb
def tailR (L : List RdF) (v : Value) (e sz n : Nat) (xs : List Value) : Res where
  foot := fun b => v.ownBlock = some b ∨ ∃ f ∈ L, f.v.ownBlock = some b
  holds := fun w => w.ownsRow 0 e sz v n xs ∧ ∀ f ∈ L, f.ok w ∧ ∀ b o s m c, f.v = .slice (some ⟨b, o, s⟩) m c → v.ownBlock = some b → o + f.xs.length ≤ n * sz
  stable := fun {w w'} h hw => ⟨(rowR v e sz n xs).stable (fun b hb => h b (.inl hb)) hw.1, fun f hf => ⟨(hw.2 f hf).1.still fun b hb => h b (.inr ⟨f, hf, hb⟩), (hw.2 f hf).2⟩⟩
  low := fun {w} hw b hb => by
    rcases hb with hb | ⟨f, hf, hb⟩
    · exact (rowR v e sz n xs).low hw.1 b hb
    · exact (hw.2 f hf).1.2 b hb
section
variable {P : Program} {Γ : Ctx} {E : Env} {H : List Res} {ops : Array Oper} {Q : Exit → Act → World → Prop} {rest : List Oper} {w0 w w' : World} {S : Nat → Prop} {F : List Res}
  {d : Nat} {dst : Option Tmp} {g : Option (Nat × Bool)} {ty : TypeId} {pos : String} {after : Array Edge} {x y z : Operand} {v u : Value} {φ : Act → World → Prop}
theorem At.imp (i : Nat) {r r' : Res} (hi : H[i]? = some r) (h1 : ∀ w, r.holds w → r'.holds w) (h2 : ∀ b, r'.foot b → r.foot b) (k : At Γ E (H.set i r') φ) : At Γ E H φ := fun a w ha hw =>
  k a w ha (hw.change hi (Mod.refl _ _) (h1 w (hw.all _ (List.mem_of_getElem? hi))) fun b hb => .inl (h2 b hb))
theorem Rep.imp {r r' : Res} (h1 : ∀ w, r.holds w → r'.holds w) (h2 : ∀ b, r'.foot b → r.foot b) (h : Rep w0 S (r :: F) w) : Rep w0 S (r' :: F) w :=
  Rep.change (i := 0) rfl h (Mod.refl _ _) (h1 w (h.all _ (List.mem_cons_self ..))) fun b hb => .inl (h2 b hb)
theorem rdf_row {e sz n : Nat} {xs : List Value} (h : w.ownsRow 0 e sz v n xs) (hsz : 0 < sz) : RdF.ok ⟨v, sz, n, xs⟩ w := ⟨row_rd h hsz, fun b hb => (h.lt b hb).2⟩
theorem At.rowTail (i : Nat) {e sz n : Nat} {xs : List Value} (hi : H[i]? = some (rowR v e sz n xs)) (hsz : 0 < sz) (k : At Γ E (H.set i (tailR [⟨v, sz, n, xs⟩] v e sz n xs)) φ) : At Γ E H φ :=
  At.imp (r' := tailR [⟨v, sz, n, xs⟩] v e sz n xs) i hi (fun w h => ⟨h, fun f hf => by
    obtain rfl := List.mem_singleton.1 hf
    refine ⟨rdf_row h hsz, fun b o s m c hv hb => ?_⟩
    rcases h.2 with ⟨h1, _⟩ | ⟨b', cap, cur, h1, _⟩
    · simp only at hv; rw [h1] at hv; cases hv
    · simp only at hv
      rw [h1] at hv
      simp only [Value.slice.injEq, Option.some.injEq, Addr.mk.injEq] at hv
      obtain ⟨⟨_, rfl, _⟩, _, _⟩ := hv
      show 0 + xs.length ≤ _
      have := h.1
      omega⟩) (fun b hb => by
    rcases hb with hb | ⟨f, hf, hb⟩
    · exact hb
    · obtain rfl := List.mem_singleton.1 hf
      exact hb) k
theorem tail_reads {L : List RdF} {e sz n : Nat} {xs : List Value} (hsz : 0 < sz) (h : (tailR L v e sz n xs).holds w) : (readsR (⟨v, sz, n, xs⟩ :: L)).holds w := fun f hf => by
  rcases List.mem_cons.1 hf with rfl | hf
  · exact rdf_row h.1 hsz
  · exact (h.2 f hf).1
theorem tail_feet {L : List RdF} {e sz n : Nat} {xs : List Value} (b : Nat) (h : (readsR (⟨v, sz, n, xs⟩ :: L)).foot b) : (tailR L v e sz n xs).foot b := by
  obtain ⟨f, hf, hb⟩ := h
  rcases List.mem_cons.1 hf with rfl | hf
  · exact .inl hb
  · exact .inr ⟨f, hf, hb⟩
theorem At.tailEnd (i : Nat) {L : List RdF} {e sz n : Nat} {xs : List Value} (hi : H[i]? = some (tailR L v e sz n xs)) (hsz : 0 < sz) (k : At Γ E (H.set i (readsR (⟨v, sz, n, xs⟩ :: L))) φ) : At Γ E H φ :=
  At.imp (r' := readsR (⟨v, sz, n, xs⟩ :: L)) i hi (fun w h => tail_reads hsz h) tail_feet k
theorem Rep.readsNil (h : Rep w0 S F w) : Rep w0 S (readsR [] :: F) w :=
  h.new (Mod.refl _ _) (fun f hf => by cases hf) (fun b ⟨f, hf, _⟩ => by cases hf)
theorem At.readsNil (k : At Γ E (readsR [] :: H) φ) : At Γ E H φ := fun a w ha hw => k a w ha hw.readsNil
theorem Rep.joinK {L M : List RdF} (h : Rep w0 S (readsR L :: readsR M :: F) w) : Rep w0 S (readsR (L ++ M) :: F) w := by
  have h1 : Rep w0 S ([readsR L, readsR M] ++ F) w := h
  refine h1.shutS.imp (r' := readsR (L ++ M)) (fun w hh f hf => ?_) (fun b hb => ?_)
  · rcases List.mem_append.1 hf with hf | hf
    · exact hh.2 (readsR L) (by simp) f hf
    · exact hh.2 (readsR M) (by simp) f hf
  · obtain ⟨f, hf, hb⟩ := hb
    rcases List.mem_append.1 hf with hf | hf
    · exact ⟨readsR L, by simp, f, hf, hb⟩
    · exact ⟨readsR M, by simp, f, hf, hb⟩
theorem At.joinK {L M : List RdF} (k : At Γ E (readsR (L ++ M) :: H) φ) : At Γ E (readsR L :: readsR M :: H) φ := fun a w ha hw => k a w ha hw.joinK
theorem reads_at {L : List RdF} {f : RdF} (h : (readsR L).holds w) (hf : f ∈ L) {b o n c : Nat} (hv : f.v = .slice (some ⟨b, o, none⟩) n c) {q : Nat} (hq : f.xs[q]? = some u) : w.cell? ⟨b, o + q, none⟩ = some u := by
  obtain ⟨A, c', e, h2, _⟩ := (h f hf).1
  obtain ⟨b', o', e', hc⟩ := h2 q u hq
  rw [hv, e'] at e
  simp only [Value.slice.injEq, Option.some.injEq, Addr.mk.injEq] at e
  obtain ⟨⟨rfl, rfl, _⟩, _⟩ := e
  exact hc
theorem At.knowK (i : Nat) {L : List RdF} {f : RdF} (hi : H[i]? = some (readsR L)) (hf : f ∈ L) (h0 : 0 < f.n) (k : ∀ b o c, f.v = .slice (some ⟨b, o, none⟩) f.n c → At Γ E H φ) : At Γ E H φ := fun a w ha hw => by
  obtain ⟨b, o, c, hv, _⟩ := ((hw.all _ (List.mem_of_getElem? hi)) f hf).1.at (j := 0) h0
  exact k b o c hv a w ha hw
theorem Val.lenK {t el : Nat} (i : Nat) {L : List RdF} {f : RdF} (hi : H[i]? = some (readsR L)) (hf : f ∈ L) (hu : P.underlying t = some (.slice el)) (hx : ev E x = some f.v) :
    Val P Γ E H ⟨dst, .call { callee := .builtin .len, args := #[x], argTypes := #[t] }, ty, pos, after, g⟩ (.int .i64 f.n) := fun a w ha hw => by
  obtain ⟨A, c, hv, _⟩ := ((hw.all _ (List.mem_of_getElem? hi)) f hf).1
  rw [hv] at hx
  exact Val.len (bt := #[]) hu hx a w ha hw
theorem Val.loadPartK {t b o n c q r m : Nat} {vs : List Value} (i : Nat) {L : List RdF} {f : RdF} (hA : ∀ w, (isAgg t).run P w = .ok true w) (hs : ∀ w, (sizeOf t).run P w = .ok m w) (hx : ev E x = some (.pointer (some ⟨b, r, none⟩))) (hi : H[i]? = some (readsR L)) (hf : f ∈ L) (hv : f.v = .slice (some ⟨b, o, none⟩) n c) (hr : o + q = r) (hl : vs.length = m)
    (hq : ∀ j u, vs[j]? = some u → f.xs[q + j]? = some u) : Val P Γ E H ⟨dst, .load t x, ty, pos, after, g⟩ (.agg vs.toArray) := fun a w ha hw => by
  subst hr
  have hld := run_loadCells_list (P := P) w ⟨b, o + q, none⟩ vs (fun j u hj => by rw [Addr.add_off, Nat.add_assoc]; exact reads_at (hw.all _ (List.mem_of_getElem? hi)) hf hv (hq j u hj))
  rw [hl] at hld
  simp only [execOp, ha.eval hx, Instr.loadAt, Instr.sureAddr, loadVar, Sem.run_bind, Sem.run_pure, Result.andThen_ok, hA, if_true, hs, hld]
theorem Mod.drewAlloc' (w : World) (o : Obj) : Mod (fun _ => False) w (w.drew.alloc o) := ⟨(Mod.alloc w.drew o).size, fun b hb h => (Mod.alloc w.drew o).old b hb h, rfl, rfl, rfl⟩
theorem run_append_ways {t ty e : TypeId} {ti : TypeInfo} {zv : Value} {sz by_ n m c : Nat} {xs ys : List Value} (ht : P.underlying t = some (.slice e)) (hti : P.info? e = some ti) (hz : ti.zero = some zv) (hsize : ti.size = sz) (hby : ti.bytes = by_) (hzs : zv.cells.size = sz) (hsz : 0 < sz)
    (h : w.ownsRow 0 e sz v n xs) {b : Addr} (hl : ys.length = m * sz) (hnews : ∀ j u, ys[j]? = some u → w.cell? (b.add j) = some u) (h1 : ∀ u ∈ ys, u.oneCell' = true) (h63 : (n + m) * by_ ≤ 140737488355328) (h64 : n + m ≤ 140737488355328) :
    ∃ v' w', (Builtin.append_ #[t, t] ty #[v, .slice (some b) m c]).run P w = .ok v' w' ∧ w'.ownsRow 0 e sz v' (n + m) (xs ++ ys) ∧ ((v'.ownBlock = v.ownBlock ∧ Mod (fun b => v.ownBlock = some b) w w') ∨ (Mod (fun _ => False) w w' ∧ ∀ b, v'.ownBlock = some b → w.heap.size ≤ b)) := by
  have hmx : n + m ≤ maxLen := by simp only [maxLen]; omega
  rcases h.2 with ⟨rfl, rfl⟩ | ⟨gb, cap, cur, rfl, hbg, hgg, hnc, hcm, hcs, htake⟩
  · obtain ⟨v', w', hr, ho, hg, _⟩ := run_append_own (P := P) w w.heap.size t ty e ti zv sz by_ ht hti hz hsize hby hzs hsz (.slice none 0 0) 0 xs ⟨h.1, .inl ⟨rfl, rfl⟩⟩ b m c ys hl hnews h1 hmx h63 (Nat.le_refl _)
    exact ⟨v', w', hr, own_base ho, .inr ⟨grown_none hg, fun b hb => own_block ho b hb⟩⟩
  · obtain ⟨v', w', hr, ho, hg, hf⟩ := run_append_row (P := P) (ty := ty) ht hti hz hsize hby hzs hsz h (a := b) (m := m) (c := c) hl hnews h1 hmx h63
    by_cases hroom : n + m ≤ cap
    · have hfit : n * ti.size + ys.length ≤ cur.size := by rw [hl, hcs, hsize, ← Nat.add_mul]; exact Nat.mul_le_mul_right _ hroom
      have hr3 := run_append_room (P := P) w t ty e ti ht hti gb n cap cur hgg b m c ys (by rw [hsize]; exact hl) hnews h1 hroom hfit
      have hr' := hr
      rw [hr'] at hr3
      injection hr3 with e1 e2
      subst e1
      exact ⟨_, w', hr, ho, .inl ⟨rfl, grown_mod hg⟩⟩
    · have holds : ∀ j u, xs[j]? = some u → w.cell? ((⟨gb, 0, none⟩ : Addr).add j) = some u := h.cells (g := gb) rfl
      have hr3 := run_append_grow (P := P) w t ty e ti zv ht hti hz ⟨gb, 0, none⟩ n cap xs (by rw [hsize]; exact h.1) holds b m c ys (by rw [hsize]; exact hl) hnews (by omega) (by simp only [maxLen] at hmx; omega) (growslice_fits (by omega) (by rw [hby]; exact h63))
      have hr' := hr
      rw [hr'] at hr3
      injection hr3 with e1 e2
      subst e1 e2
      refine ⟨_, _, hr, ho, .inr ⟨Mod.drewAlloc' w _, fun b' hb' => ?_⟩⟩
      have hb2 : some w.heap.size = some b' := hb'
      exact Nat.le_of_eq (Option.some.inj hb2)
theorem At.appendT {i t e sz by_ n m c o b : Nat} {ti : TypeInfo} {zv : Value} {L : List RdF} {xs ys : List Value} (ht : P.underlying t = some (.slice e)) (hti : P.info? e = some ti) (hz : ti.zero = some zv) (hsize : ti.size = sz) (hby : ti.bytes = by_) (hzs : zv.cells.size = sz) (hsz : Nat.blt 0 sz = true)
    (hx : ev E x = some v) (hy : ev E y = some (.slice (some ⟨b, o, none⟩) m c)) (hi : H[i]? = some (tailR L v e sz n xs)) (hl : ys.length = m * sz)
    (hsrc : ∀ w, Rep Γ.w0 Γ.S H w → ∀ j u, ys[j]? = some u → w.cell? ⟨b, o + j, none⟩ = some u) (h1 : ∀ u ∈ ys, u.oneCell' = true) (h63 : (n + m) * by_ ≤ 140737488355328) (h64 : n + m ≤ 140737488355328) (hn : Nat.blt d Γ.n = true)
    (k : ∀ v', At Γ ((d, v') :: E) (H.set i (tailR L v' e sz (n + m) (xs ++ ys))) (wpList P ops Q rest)) :
    At Γ E H (wpList P ops Q ({ dst := some d, op := .call { callee := .builtin .append, args := #[x, y], argTypes := #[t, t] }, type := ty, pos, after, guard := none } :: rest)) :=
  At.run rfl rfl hn fun a w ha hw => by
    have h : (tailR L v e sz n xs).holds w := hw.all _ (List.mem_of_getElem? hi)
    have hsz' : 0 < sz := by simpa [Nat.blt_eq] using hsz
    obtain ⟨v', w', hr, ho, hway⟩ := run_append_ways (P := P) (ty := ty) (c := c) ht hti hz hsize hby hzs hsz' h.1 (b := ⟨b, o, none⟩) hl (fun j u hj => by rw [Addr.add_off]; exact hsrc w hw j u hj) h1 h63 h64
    have hM : Mod (tailR L v e sz n xs).foot w w' := by
      rcases hway with ⟨_, hm⟩ | ⟨hm, _⟩
      · exact hm.mono fun b hb => .inl hb
      · exact hm.mono fun b hb => hb.elim
    refine ⟨v', w', _, by simp [execOp, resolve, invoke, builtin, ha.eval hx, ha.eval hy, Sem.run_bind, hr], hw.change (r' := tailR L v' e sz (n + m) (xs ++ ys)) hi hM ⟨ho, fun f hf => ?_⟩ (fun b hb => ?_), k v'⟩
    · obtain ⟨hok, hin⟩ := h.2 f hf
      have hle : n * sz ≤ (n + m) * sz := Nat.mul_le_mul_right _ (Nat.le_add_right _ _)
      rcases hway with ⟨hvb, hm⟩ | ⟨hm, hnew⟩
      · refine ⟨?_, fun b o s m' c' hv hb => Nat.le_trans (hin b o s m' c' hv (hvb ▸ hb)) hle⟩
        obtain ⟨A, c', e1, h2, h3⟩ := hok.1
        refine ⟨⟨A, c', e1, fun j q hj => ?_, h3⟩, fun b hb => Nat.lt_of_lt_of_le (hok.2 b hb) hm.size⟩
        obtain ⟨b1, o1, rfl, hc⟩ := h2 j q hj
        refine ⟨b1, o1, rfl, ?_⟩
        by_cases hbb : v.ownBlock = some b1
        · have hlt := (List.getElem?_eq_some_iff.1 hj).1
          have hin' := hin b1 o1 none f.n c' e1 hbb
          have hjx : o1 + j < xs.length := by have := h.1.1; omega
          have hrb : ∀ {y : Value}, y.ownBlock = some b1 → rowB y = b1 := fun hy => by simp [rowB, hy]
          have hold := row_cell h.1 (List.getElem?_eq_getElem hjx)
          rw [hrb hbb] at hold
          rw [hold] at hc
          obtain rfl := Option.some.inj hc
          have hnew := row_cell (q := o1 + j) ho (by rw [List.getElem?_append_left hjx]; exact List.getElem?_eq_getElem hjx)
          rw [hrb (hvb.trans hbb)] at hnew
          exact hnew
        · have hlt : b1 < w.heap.size := hok.2 b1 (by rw [e1]; rfl)
          rw [World.cell?_of_block (hm.old b1 hlt hbb)]; exact hc
      · refine ⟨hok.still fun b hb => hm.old b (hok.2 b hb) (fun h => h), fun b o s m' c' hv hb => ?_⟩
        have h4 := hnew b hb
        have h5 := hok.2 b (by rw [hv]; rfl)
        omega
    · rcases hb with hb | hb
      · rcases hway with ⟨hvb, _⟩ | ⟨_, hnew⟩
        · exact .inl (.inl (hvb ▸ hb))
        · exact .inr (hnew b hb)
      · exact .inl (.inr hb)
def GU {α : Type} (P : Program) (f : FuncId) (vs : List Value) (r : Res) (F : α → Value) (R : α → Res) (I : α → Prop) (w : World) : Prop := Calls P f vs.toArray w fun e w' => ∃ y, e = .returned (F y) ∧ I y ∧ Rep w (feet [r]) [R y] w'
theorem At.callG {α : Type} (i : Nat) {r : Res} {f : FuncId} {l : List Operand} {vs : List Value} {at_ : Array TypeId} {FF : α → Value} {R : α → Res} {I : α → Prop} (hi : H[i]? = some r) (h : ∀ w, Rep Γ.w0 Γ.S H w → r.holds w → GU P f vs r FF R I w) (hc : ∀ args w, (callFunc f args).run P w = .ok (.enter f args) w) (hv : evs E l = some vs) (hn : Nat.blt d Γ.n = true)
    (c : ∀ y, I y → At Γ ((d, FF y) :: E) (H.set i (R y)) (wpList P ops Q rest)) :
    At Γ E H (wpList P ops Q ({ dst := some d, op := .call { callee := .value (.func f), args := l.toArray, argTypes := at_ }, type := ty, pos, after, guard := none } :: rest)) :=
  At.call hc hv hn fun w hw => (h w hw (hw.all _ (List.mem_of_getElem? hi))).mono fun e w' ⟨y, he, hI, hr⟩ => ⟨FF y, _, he, Rep.frame1 (X := []) hi hw hr, c y hI⟩
theorem At.shutTwo (i j : Nat) {r s : Res} (hi : H[i]? = some r) (hj : (H.eraseIdx i)[j]? = some s) (k : At Γ E (star [r, s] :: (H.eraseIdx i).eraseIdx j) φ) : At Γ E H φ := fun a w ha hw =>
  k a w ha (Rep.shutS (L := [r, s]) (hw.perm ((erase_perm H i r hi).trans ((erase_perm _ j s hj).cons r))))
def wrL {α : Type} (l : List α) (k : Nat) (c : α) : List α := List.replicate k c ++ l.drop k
theorem wrL_0 {α : Type} (l : List α) (c : α) : wrL l 0 c = l := by simp [wrL]
theorem wrL_len {α : Type} {l : List α} {k : Nat} {c : α} (h : k ≤ l.length) : (wrL l k c).length = l.length := by simp [wrL]; omega
theorem wrL_set {α : Type} {l : List α} {k : Nat} {c : α} (h : k < l.length) : (wrL l k c).set k c = wrL l (k + 1) c := by
  unfold wrL
  apply List.ext_getElem?
  intro j
  rw [List.getElem?_set, List.length_append, List.length_replicate, List.length_drop]
  rcases Nat.lt_trichotomy k j with h1 | h1 | h1
  · rw [if_neg (by omega), List.getElem?_append_right (by simp; omega), List.getElem?_append_right (by simp; omega)]
    simp only [List.length_replicate, List.getElem?_drop]
    congr 1; omega
  · subst h1
    rw [if_pos rfl, if_pos (by omega), List.getElem?_append_left (by simp), List.getElem?_replicate, if_pos (by omega)]
  · rw [if_neg (by omega), List.getElem?_append_left (by simpa using h1), List.getElem?_append_left (by simp; omega), List.getElem?_replicate, List.getElem?_replicate, if_pos h1, if_pos (by omega)]
theorem wrL_all {α : Type} {l : List α} {c : α} : wrL l l.length c = List.replicate l.length c := by simp [wrL]
end
section
variable {α : Type} {f : α → List Value} {n : Nat}
theorem flat_len (hf : ∀ x, (f x).length = n) : ∀ X : List α, (X.flatMap f).length = X.length * n
  | [] => by simp
  | x :: X => by rw [List.flatMap_cons, List.length_append, hf, flat_len hf X, List.length_cons, Nat.succ_mul]; omega
theorem flat_at (hf : ∀ x, (f x).length = n) : ∀ {X : List α} {i k : Nat} {x : α} {u : Value}, X[i]? = some x → (f x)[k]? = some u → (X.flatMap f)[i * n + k]? = some u
  | y :: X, 0, k, x, u, h, hu => by
    obtain rfl : y = x := by simpa using h
    rw [List.flatMap_cons, Nat.zero_mul, Nat.zero_add, List.getElem?_append_left (List.getElem?_eq_some_iff.1 hu).1]; exact hu
  | y :: X, i + 1, k, x, u, h, hu => by
    have := flat_at hf (X := X) (by simpa using h) hu
    rw [List.flatMap_cons, List.getElem?_append_right (by rw [hf, Nat.succ_mul]; omega), hf, show (i + 1) * n + k - n = i * n + k by rw [Nat.succ_mul]; omega]; exact this
end
section
variable {Γ : Ctx} {E : Env} {H L : List Res} {φ : Act → World → Prop}
theorem At.joinAt (i j : Nat) {L M : List RdF} (hi : H[i]? = some (readsR L)) (hj : (H.eraseIdx i)[j]? = some (readsR M)) (k : At Γ E ((H.eraseIdx i).set j (readsR (L ++ M))) φ) : At Γ E H φ := fun a w ha hw => by
  have h1 : Rep Γ.w0 Γ.S (readsR L :: readsR M :: (H.eraseIdx i).eraseIdx j) w := hw.perm ((erase_perm H i _ hi).trans ((erase_perm _ j _ hj).cons _))
  exact k a w ha (h1.joinK.perm (set_perm _ j _ _ hj).symm)
end
end Go.Wk
namespace Go.Proofs.YthdmlpjhcalliaaGreatDoor
open Go Go.Wk
theorem bld_28_ (w : World) : (Instr.build 28 #[]).run Tryz.prog w = .ok (.agg #[Value.slice none 0 0, Value.slice none 0 0, Value.slice none 0 0, Value.slice none 0 0, Value.slice none 0 0, Value.slice none 0 0]) w := by kernel_rfl
theorem bld_31_ (w : World) : (Instr.build 31 #[]).run Tryz.prog w = .ok (.agg #[Value.int .i64 0, Value.int .i64 0, Value.int .i64 0]) w := by kernel_rfl
theorem bld_31_0_1_2 (x0 : Int) (x1 : Int) (x2 : Int) (w : World) : (Instr.build 31 #[(0, Value.int .i64 x0), (1, Value.int .i64 x1), (2, Value.int .i64 x2)]).run Tryz.prog w = .ok (.agg #[Value.int .i64 x0, Value.int .i64 x1, Value.int .i64 x2]) w := by kernel_rfl
theorem bld_33_ (w : World) : (Instr.build 33 #[]).run Tryz.prog w = .ok (.agg #[Value.int .i64 0, Value.int .i64 0, Value.int .i64 0, Value.int .i64 0]) w := by kernel_rfl
theorem bld_33_0_1_3 (x0 : Int) (x1 : Int) (x3 : Int) (w : World) : (Instr.build 33 #[(0, Value.int .i64 x0), (1, Value.int .i64 x1), (3, Value.int .i64 x3)]).run Tryz.prog w = .ok (.agg #[Value.int .i64 x0, Value.int .i64 x1, Value.int .i64 0, Value.int .i64 x3]) w := by kernel_rfl
theorem bld_35_ (w : World) : (Instr.build 35 #[]).run Tryz.prog w = .ok (.agg #[Value.int .u64 0, Value.int .u64 0, Value.int .u64 0]) w := by kernel_rfl
theorem bld_37_ (w : World) : (Instr.build 37 #[]).run Tryz.prog w = .ok (.agg #[Value.int .i64 0, Value.int .u64 0, Value.int .i64 0, Value.int .i64 0, Value.int .i64 0, Value.int .i64 0, Value.int .i64 0, Value.string ⟨#[]⟩]) w := by kernel_rfl
theorem bld_37_0 (x0 : Int) (w : World) : (Instr.build 37 #[(0, Value.int .i64 x0)]).run Tryz.prog w = .ok (.agg #[Value.int .i64 x0, Value.int .u64 0, Value.int .i64 0, Value.int .i64 0, Value.int .i64 0, Value.int .i64 0, Value.int .i64 0, Value.string ⟨#[]⟩]) w := by kernel_rfl
theorem bld_37_0_1 (x0 : Int) (x1 : Int) (w : World) : (Instr.build 37 #[(0, Value.int .i64 x0), (1, Value.int .u64 x1)]).run Tryz.prog w = .ok (.agg #[Value.int .i64 x0, Value.int .u64 x1, Value.int .i64 0, Value.int .i64 0, Value.int .i64 0, Value.int .i64 0, Value.int .i64 0, Value.string ⟨#[]⟩]) w := by kernel_rfl
theorem bld_39_ (w : World) : (Instr.build 39 #[]).run Tryz.prog w = .ok (.agg (List.replicate 64 (Value.int .u8 0)).toArray) w := by kernel_rfl
theorem bld_44_ (w : World) : (Instr.build 44 #[]).run Tryz.prog w = .ok (.agg #[Value.int .u32 0, Value.slice none 0 0]) w := by kernel_rfl
theorem bld_44_0 (x0 : Int) (w : World) : (Instr.build 44 #[(0, Value.int .u32 x0)]).run Tryz.prog w = .ok (.agg #[Value.int .u32 x0, Value.slice none 0 0]) w := by kernel_rfl
theorem bld_44_0_1 (x0 : Int) (x1a : Option Addr) (x1n x1c : Nat) (w : World) : (Instr.build 44 #[(0, Value.int .u32 x0), (1, Value.slice x1a x1n x1c)]).run Tryz.prog w = .ok (.agg #[Value.int .u32 x0, Value.slice x1a x1n x1c]) w := by kernel_rfl
theorem bld_47_ (w : World) : (Instr.build 47 #[]).run Tryz.prog w = .ok (.agg #[Value.int .i64 0, Value.int .i64 0]) w := by kernel_rfl
theorem bld_47_0_1 (x0 : Int) (x1 : Int) (w : World) : (Instr.build 47 #[(0, Value.int .i64 x0), (1, Value.int .i64 x1)]).run Tryz.prog w = .ok (.agg #[Value.int .i64 x0, Value.int .i64 x1]) w := by kernel_rfl
theorem bld_58_ (w : World) : (Instr.build 58 #[]).run Tryz.prog w = .ok (.agg #[Value.int .u64 0, Value.int .u64 0]) w := by kernel_rfl
theorem bld_58_0_1 (x0 : Int) (x1 : Int) (w : World) : (Instr.build 58 #[(0, Value.int .u64 x0), (1, Value.int .u64 x1)]).run Tryz.prog w = .ok (.agg #[Value.int .u64 x0, Value.int .u64 x1]) w := by kernel_rfl
theorem bld_62_0 (x0 : Int) (w : World) : (Instr.build 62 #[(0, Value.int .i64 x0)]).run Tryz.prog w = .ok (.agg #[Value.int .i64 x0, Value.int .u64 0]) w := by kernel_rfl
theorem bld_62_0_1 (x0 : Int) (x1 : Int) (w : World) : (Instr.build 62 #[(0, Value.int .i64 x0), (1, Value.int .u64 x1)]).run Tryz.prog w = .ok (.agg #[Value.int .i64 x0, Value.int .u64 x1]) w := by kernel_rfl
theorem bld_64_0 (x0 : Int) (w : World) : (Instr.build 64 #[(0, Value.int .i64 x0)]).run Tryz.prog w = .ok (.agg #[Value.int .i64 x0, Value.int .i64 0]) w := by kernel_rfl
theorem bld_64_0_1 (x0 : Int) (x1 : Int) (w : World) : (Instr.build 64 #[(0, Value.int .i64 x0), (1, Value.int .i64 x1)]).run Tryz.prog w = .ok (.agg #[Value.int .i64 x0, Value.int .i64 x1]) w := by kernel_rfl
theorem bld_66_ (w : World) : (Instr.build 66 #[]).run Tryz.prog w = .ok (.agg #[Value.int .i64 0, Value.int .i64 0, Value.int .i64 0, Value.int .i64 0]) w := by kernel_rfl
theorem bld_66_0_1_2_3 (x0 : Int) (x1 : Int) (x2 : Int) (x3 : Int) (w : World) : (Instr.build 66 #[(0, Value.int .i64 x0), (1, Value.int .i64 x1), (2, Value.int .i64 x2), (3, Value.int .i64 x3)]).run Tryz.prog w = .ok (.agg #[Value.int .i64 x0, Value.int .i64 x1, Value.int .i64 x2, Value.int .i64 x3]) w := by kernel_rfl
theorem bld_100_ (w : World) : (Instr.build 100 #[]).run Tryz.prog w = .ok (.agg (List.replicate 64 (Value.int .u8 0) ++ [Value.int .i64 0]).toArray) w := by kernel_rfl
theorem bld_113_0 (x0a : Option Addr) (x0n x0c : Nat) (w : World) : (Instr.build 113 #[(0, Value.slice x0a x0n x0c)]).run Tryz.prog w = .ok (.agg #[Value.slice x0a x0n x0c, Value.int .i64 0]) w := by kernel_rfl
theorem bld_120_0_1_2 (x0 : Int) (x1 : Int) (x2 : Int) (w : World) : (Instr.build 120 #[(0, Value.int .i64 x0), (1, Value.int .i64 x1), (2, Value.int .i64 x2)]).run Tryz.prog w = .ok (.agg #[Value.int .i64 x0, Value.int .i64 x1, Value.int .i64 x2]) w := by kernel_rfl
theorem bld_150_0 (x0 : Int) (w : World) : (Instr.build 150 #[(0, Value.int .i64 x0)]).run Tryz.prog w = .ok (.agg #[Value.int .i64 x0]) w := by kernel_rfl
theorem fo_28_0 (b o : Nat) (w : World) : (Instr.fieldAt 28 (.pointer (some ⟨b, o, none⟩)) 0).run Tryz.prog w = .ok (.pointer (some ⟨b, o + 0, none⟩)) w := by kernel_rfl
theorem fo_28_1 (b o : Nat) (w : World) : (Instr.fieldAt 28 (.pointer (some ⟨b, o, none⟩)) 1).run Tryz.prog w = .ok (.pointer (some ⟨b, o + 1, none⟩)) w := by kernel_rfl
theorem fo_28_2 (b o : Nat) (w : World) : (Instr.fieldAt 28 (.pointer (some ⟨b, o, none⟩)) 2).run Tryz.prog w = .ok (.pointer (some ⟨b, o + 2, none⟩)) w := by kernel_rfl
theorem fo_28_3 (b o : Nat) (w : World) : (Instr.fieldAt 28 (.pointer (some ⟨b, o, none⟩)) 3).run Tryz.prog w = .ok (.pointer (some ⟨b, o + 3, none⟩)) w := by kernel_rfl
theorem fo_28_4 (b o : Nat) (w : World) : (Instr.fieldAt 28 (.pointer (some ⟨b, o, none⟩)) 4).run Tryz.prog w = .ok (.pointer (some ⟨b, o + 4, none⟩)) w := by kernel_rfl
theorem fo_28_5 (b o : Nat) (w : World) : (Instr.fieldAt 28 (.pointer (some ⟨b, o, none⟩)) 5).run Tryz.prog w = .ok (.pointer (some ⟨b, o + 5, none⟩)) w := by kernel_rfl
theorem fo_31_0 (b o : Nat) (w : World) : (Instr.fieldAt 31 (.pointer (some ⟨b, o, none⟩)) 0).run Tryz.prog w = .ok (.pointer (some ⟨b, o + 0, none⟩)) w := by kernel_rfl
theorem fo_31_1 (b o : Nat) (w : World) : (Instr.fieldAt 31 (.pointer (some ⟨b, o, none⟩)) 1).run Tryz.prog w = .ok (.pointer (some ⟨b, o + 1, none⟩)) w := by kernel_rfl
theorem fo_31_2 (b o : Nat) (w : World) : (Instr.fieldAt 31 (.pointer (some ⟨b, o, none⟩)) 2).run Tryz.prog w = .ok (.pointer (some ⟨b, o + 2, none⟩)) w := by kernel_rfl
theorem fo_33_0 (b o : Nat) (w : World) : (Instr.fieldAt 33 (.pointer (some ⟨b, o, none⟩)) 0).run Tryz.prog w = .ok (.pointer (some ⟨b, o + 0, none⟩)) w := by kernel_rfl
theorem fo_33_1 (b o : Nat) (w : World) : (Instr.fieldAt 33 (.pointer (some ⟨b, o, none⟩)) 1).run Tryz.prog w = .ok (.pointer (some ⟨b, o + 1, none⟩)) w := by kernel_rfl
theorem fo_33_2 (b o : Nat) (w : World) : (Instr.fieldAt 33 (.pointer (some ⟨b, o, none⟩)) 2).run Tryz.prog w = .ok (.pointer (some ⟨b, o + 2, none⟩)) w := by kernel_rfl
theorem fo_33_3 (b o : Nat) (w : World) : (Instr.fieldAt 33 (.pointer (some ⟨b, o, none⟩)) 3).run Tryz.prog w = .ok (.pointer (some ⟨b, o + 3, none⟩)) w := by kernel_rfl
theorem fo_37_0 (b o : Nat) (w : World) : (Instr.fieldAt 37 (.pointer (some ⟨b, o, none⟩)) 0).run Tryz.prog w = .ok (.pointer (some ⟨b, o + 0, none⟩)) w := by kernel_rfl
theorem fo_37_1 (b o : Nat) (w : World) : (Instr.fieldAt 37 (.pointer (some ⟨b, o, none⟩)) 1).run Tryz.prog w = .ok (.pointer (some ⟨b, o + 1, none⟩)) w := by kernel_rfl
theorem fo_37_2 (b o : Nat) (w : World) : (Instr.fieldAt 37 (.pointer (some ⟨b, o, none⟩)) 2).run Tryz.prog w = .ok (.pointer (some ⟨b, o + 2, none⟩)) w := by kernel_rfl
theorem fo_37_3 (b o : Nat) (w : World) : (Instr.fieldAt 37 (.pointer (some ⟨b, o, none⟩)) 3).run Tryz.prog w = .ok (.pointer (some ⟨b, o + 3, none⟩)) w := by kernel_rfl
theorem fo_37_4 (b o : Nat) (w : World) : (Instr.fieldAt 37 (.pointer (some ⟨b, o, none⟩)) 4).run Tryz.prog w = .ok (.pointer (some ⟨b, o + 4, none⟩)) w := by kernel_rfl
theorem fo_37_5 (b o : Nat) (w : World) : (Instr.fieldAt 37 (.pointer (some ⟨b, o, none⟩)) 5).run Tryz.prog w = .ok (.pointer (some ⟨b, o + 5, none⟩)) w := by kernel_rfl
theorem fo_37_6 (b o : Nat) (w : World) : (Instr.fieldAt 37 (.pointer (some ⟨b, o, none⟩)) 6).run Tryz.prog w = .ok (.pointer (some ⟨b, o + 6, none⟩)) w := by kernel_rfl
theorem fo_37_7 (b o : Nat) (w : World) : (Instr.fieldAt 37 (.pointer (some ⟨b, o, none⟩)) 7).run Tryz.prog w = .ok (.pointer (some ⟨b, o + 7, none⟩)) w := by kernel_rfl
theorem fo_44_0 (b o : Nat) (w : World) : (Instr.fieldAt 44 (.pointer (some ⟨b, o, none⟩)) 0).run Tryz.prog w = .ok (.pointer (some ⟨b, o + 0, none⟩)) w := by kernel_rfl
theorem fo_44_1 (b o : Nat) (w : World) : (Instr.fieldAt 44 (.pointer (some ⟨b, o, none⟩)) 1).run Tryz.prog w = .ok (.pointer (some ⟨b, o + 1, none⟩)) w := by kernel_rfl
theorem fo_47_0 (b o : Nat) (w : World) : (Instr.fieldAt 47 (.pointer (some ⟨b, o, none⟩)) 0).run Tryz.prog w = .ok (.pointer (some ⟨b, o + 0, none⟩)) w := by kernel_rfl
theorem fo_47_1 (b o : Nat) (w : World) : (Instr.fieldAt 47 (.pointer (some ⟨b, o, none⟩)) 1).run Tryz.prog w = .ok (.pointer (some ⟨b, o + 1, none⟩)) w := by kernel_rfl
theorem fo_49_0 (b o : Nat) (w : World) : (Instr.fieldAt 49 (.pointer (some ⟨b, o, none⟩)) 0).run Tryz.prog w = .ok (.pointer (some ⟨b, o + 0, none⟩)) w := by kernel_rfl
theorem fo_49_1 (b o : Nat) (w : World) : (Instr.fieldAt 49 (.pointer (some ⟨b, o, none⟩)) 1).run Tryz.prog w = .ok (.pointer (some ⟨b, o + 1, none⟩)) w := by kernel_rfl
theorem fo_49_2 (b o : Nat) (w : World) : (Instr.fieldAt 49 (.pointer (some ⟨b, o, none⟩)) 2).run Tryz.prog w = .ok (.pointer (some ⟨b, o + 2, none⟩)) w := by kernel_rfl
theorem fo_49_3 (b o : Nat) (w : World) : (Instr.fieldAt 49 (.pointer (some ⟨b, o, none⟩)) 3).run Tryz.prog w = .ok (.pointer (some ⟨b, o + 5, none⟩)) w := by kernel_rfl
theorem fo_49_4 (b o : Nat) (w : World) : (Instr.fieldAt 49 (.pointer (some ⟨b, o, none⟩)) 4).run Tryz.prog w = .ok (.pointer (some ⟨b, o + 9, none⟩)) w := by kernel_rfl
theorem fo_49_5 (b o : Nat) (w : World) : (Instr.fieldAt 49 (.pointer (some ⟨b, o, none⟩)) 5).run Tryz.prog w = .ok (.pointer (some ⟨b, o + 12, none⟩)) w := by kernel_rfl
theorem fo_49_6 (b o : Nat) (w : World) : (Instr.fieldAt 49 (.pointer (some ⟨b, o, none⟩)) 6).run Tryz.prog w = .ok (.pointer (some ⟨b, o + 20, none⟩)) w := by kernel_rfl
theorem fo_49_7 (b o : Nat) (w : World) : (Instr.fieldAt 49 (.pointer (some ⟨b, o, none⟩)) 7).run Tryz.prog w = .ok (.pointer (some ⟨b, o + 84, none⟩)) w := by kernel_rfl
theorem fo_49_8 (b o : Nat) (w : World) : (Instr.fieldAt 49 (.pointer (some ⟨b, o, none⟩)) 8).run Tryz.prog w = .ok (.pointer (some ⟨b, o + 85, none⟩)) w := by kernel_rfl
theorem fo_49_9 (b o : Nat) (w : World) : (Instr.fieldAt 49 (.pointer (some ⟨b, o, none⟩)) 9).run Tryz.prog w = .ok (.pointer (some ⟨b, o + 87, none⟩)) w := by kernel_rfl
theorem fo_49_10 (b o : Nat) (w : World) : (Instr.fieldAt 49 (.pointer (some ⟨b, o, none⟩)) 10).run Tryz.prog w = .ok (.pointer (some ⟨b, o + 88, none⟩)) w := by kernel_rfl
theorem fo_49_11 (b o : Nat) (w : World) : (Instr.fieldAt 49 (.pointer (some ⟨b, o, none⟩)) 11).run Tryz.prog w = .ok (.pointer (some ⟨b, o + 90, none⟩)) w := by kernel_rfl
theorem fo_62_0 (b o : Nat) (w : World) : (Instr.fieldAt 62 (.pointer (some ⟨b, o, none⟩)) 0).run Tryz.prog w = .ok (.pointer (some ⟨b, o + 0, none⟩)) w := by kernel_rfl
theorem fo_62_1 (b o : Nat) (w : World) : (Instr.fieldAt 62 (.pointer (some ⟨b, o, none⟩)) 1).run Tryz.prog w = .ok (.pointer (some ⟨b, o + 1, none⟩)) w := by kernel_rfl
theorem fo_64_0 (b o : Nat) (w : World) : (Instr.fieldAt 64 (.pointer (some ⟨b, o, none⟩)) 0).run Tryz.prog w = .ok (.pointer (some ⟨b, o + 0, none⟩)) w := by kernel_rfl
theorem fo_64_1 (b o : Nat) (w : World) : (Instr.fieldAt 64 (.pointer (some ⟨b, o, none⟩)) 1).run Tryz.prog w = .ok (.pointer (some ⟨b, o + 1, none⟩)) w := by kernel_rfl
theorem fo_100_0 (b o : Nat) (w : World) : (Instr.fieldAt 100 (.pointer (some ⟨b, o, none⟩)) 0).run Tryz.prog w = .ok (.pointer (some ⟨b, o + 0, none⟩)) w := by kernel_rfl
theorem fo_100_1 (b o : Nat) (w : World) : (Instr.fieldAt 100 (.pointer (some ⟨b, o, none⟩)) 1).run Tryz.prog w = .ok (.pointer (some ⟨b, o + 64, none⟩)) w := by kernel_rfl
theorem fo_113_0 (b o : Nat) (w : World) : (Instr.fieldAt 113 (.pointer (some ⟨b, o, none⟩)) 0).run Tryz.prog w = .ok (.pointer (some ⟨b, o + 0, none⟩)) w := by kernel_rfl
theorem fo_113_1 (b o : Nat) (w : World) : (Instr.fieldAt 113 (.pointer (some ⟨b, o, none⟩)) 1).run Tryz.prog w = .ok (.pointer (some ⟨b, o + 1, none⟩)) w := by kernel_rfl
theorem fo_150_0 (b o : Nat) (w : World) : (Instr.fieldAt 150 (.pointer (some ⟨b, o, none⟩)) 0).run Tryz.prog w = .ok (.pointer (some ⟨b, o + 0, none⟩)) w := by kernel_rfl
theorem info_5 : Tryz.prog.info? 5 = some Tryz.t5 := by kernel_rfl
theorem info_34 : Tryz.prog.info? 34 = some Tryz.t34 := by kernel_rfl
theorem info_40 : Tryz.prog.info? 40 = some Tryz.t40 := by kernel_rfl
theorem info_42 : Tryz.prog.info? 42 = some Tryz.t42 := by kernel_rfl
theorem info_45 : Tryz.prog.info? 45 = some Tryz.t45 := by kernel_rfl
theorem info_62 : Tryz.prog.info? 62 = some Tryz.t62 := by kernel_rfl
theorem info_64 : Tryz.prog.info? 64 = some Tryz.t64 := by kernel_rfl
theorem bs_24_1 (x0a : Option Addr) (x0n x0c : Nat) (w : World) : (Instr.buildSlice 24 1 #[(0, Value.slice x0a x0n x0c)]).run Tryz.prog w = .ok (.slice (some ⟨w.heap.size, 0, none⟩) 1 1) (w.alloc (.cells [Value.slice x0a x0n x0c].toArray 45)) := by kernel_rfl
theorem bs_25_1 (x0a : Option Addr) (x0n x0c : Nat) (w : World) : (Instr.buildSlice 25 1 #[(0, Value.slice x0a x0n x0c)]).run Tryz.prog w = .ok (.slice (some ⟨w.heap.size, 0, none⟩) 1 1) (w.alloc (.cells [Value.slice x0a x0n x0c].toArray 40)) := by kernel_rfl
theorem bs_26_1 (x0a : Option Addr) (x0n x0c : Nat) (w : World) : (Instr.buildSlice 26 1 #[(0, Value.slice x0a x0n x0c)]).run Tryz.prog w = .ok (.slice (some ⟨w.heap.size, 0, none⟩) 1 1) (w.alloc (.cells [Value.slice x0a x0n x0c].toArray 42)) := by kernel_rfl
theorem bs_40_1 (x0_0 : Int) (x0_1 : Int) (w : World) : (Instr.buildSlice 40 1 #[(0, Value.agg #[Value.int .i64 x0_0, Value.int .u64 x0_1])]).run Tryz.prog w = .ok (.slice (some ⟨w.heap.size, 0, none⟩) 1 1) (w.alloc (.cells [Value.int .i64 x0_0, Value.int .u64 x0_1].toArray 62)) := by kernel_rfl
theorem bs_40_2 (x0_0 : Int) (x0_1 : Int) (x1_0 : Int) (x1_1 : Int) (w : World) : (Instr.buildSlice 40 2 #[(0, Value.agg #[Value.int .i64 x0_0, Value.int .u64 x0_1]), (1, Value.agg #[Value.int .i64 x1_0, Value.int .u64 x1_1])]).run Tryz.prog w = .ok (.slice (some ⟨w.heap.size, 0, none⟩) 2 2) (w.alloc (.cells [Value.int .i64 x0_0, Value.int .u64 x0_1, Value.int .i64 x1_0, Value.int .u64 x1_1].toArray 62)) := by kernel_rfl
theorem bs_42_1 (x0_0 : Int) (x0_1 : Int) (w : World) : (Instr.buildSlice 42 1 #[(0, Value.agg #[Value.int .i64 x0_0, Value.int .i64 x0_1])]).run Tryz.prog w = .ok (.slice (some ⟨w.heap.size, 0, none⟩) 1 1) (w.alloc (.cells [Value.int .i64 x0_0, Value.int .i64 x0_1].toArray 64)) := by kernel_rfl
theorem bs_42_2 (x0_0 : Int) (x0_1 : Int) (x1_0 : Int) (x1_1 : Int) (w : World) : (Instr.buildSlice 42 2 #[(0, Value.agg #[Value.int .i64 x0_0, Value.int .i64 x0_1]), (1, Value.agg #[Value.int .i64 x1_0, Value.int .i64 x1_1])]).run Tryz.prog w = .ok (.slice (some ⟨w.heap.size, 0, none⟩) 2 2) (w.alloc (.cells [Value.int .i64 x0_0, Value.int .i64 x0_1, Value.int .i64 x1_0, Value.int .i64 x1_1].toArray 64)) := by kernel_rfl
theorem bs_45_1 (x0 : Int) (w : World) : (Instr.buildSlice 45 1 #[(0, Value.int .u8 x0)]).run Tryz.prog w = .ok (.slice (some ⟨w.heap.size, 0, none⟩) 1 1) (w.alloc (.cells [Value.int .u8 x0].toArray 5)) := by kernel_rfl
theorem bs_45_2 (x0 : Int) (x1 : Int) (w : World) : (Instr.buildSlice 45 2 #[(0, Value.int .u8 x0), (1, Value.int .u8 x1)]).run Tryz.prog w = .ok (.slice (some ⟨w.heap.size, 0, none⟩) 2 2) (w.alloc (.cells [Value.int .u8 x0, Value.int .u8 x1].toArray 5)) := by kernel_rfl
theorem bs_45_8 (x0 : Int) (x1 : Int) (x2 : Int) (x3 : Int) (x4 : Int) (x5 : Int) (x6 : Int) (x7 : Int) (w : World) : (Instr.buildSlice 45 8 #[(0, Value.int .u8 x0), (1, Value.int .u8 x1), (2, Value.int .u8 x2), (3, Value.int .u8 x3), (4, Value.int .u8 x4), (5, Value.int .u8 x5), (6, Value.int .u8 x6), (7, Value.int .u8 x7)]).run Tryz.prog w = .ok (.slice (some ⟨w.heap.size, 0, none⟩) 8 8) (w.alloc (.cells [Value.int .u8 x0, Value.int .u8 x1, Value.int .u8 x2, Value.int .u8 x3, Value.int .u8 x4, Value.int .u8 x5, Value.int .u8 x6, Value.int .u8 x7].toArray 5)) := by kernel_rfl
theorem bs_136_1 (x0 : Int) (w : World) : (Instr.buildSlice 136 1 #[(0, Value.int .u64 x0)]).run Tryz.prog w = .ok (.slice (some ⟨w.heap.size, 0, none⟩) 1 1) (w.alloc (.cells [Value.int .u64 x0].toArray 34)) := by kernel_rfl
theorem bs_136_2 (x0 : Int) (x1 : Int) (w : World) : (Instr.buildSlice 136 2 #[(0, Value.int .u64 x0), (1, Value.int .u64 x1)]).run Tryz.prog w = .ok (.slice (some ⟨w.heap.size, 0, none⟩) 2 2) (w.alloc (.cells [Value.int .u64 x0, Value.int .u64 x1].toArray 34)) := by kernel_rfl
theorem bs_136_3 (x0 : Int) (x1 : Int) (x2 : Int) (w : World) : (Instr.buildSlice 136 3 #[(0, Value.int .u64 x0), (1, Value.int .u64 x1), (2, Value.int .u64 x2)]).run Tryz.prog w = .ok (.slice (some ⟨w.heap.size, 0, none⟩) 3 3) (w.alloc (.cells [Value.int .u64 x0, Value.int .u64 x1, Value.int .u64 x2].toArray 34)) := by kernel_rfl
theorem eq_31 (a0 : Int) (a1 : Int) (a2 : Int) (b0 : Int) (b1 : Int) (b2 : Int) (w : World) : (Op.equal 31 (.agg #[Value.int .i64 a0, Value.int .i64 a1, Value.int .i64 a2]) (.agg #[Value.int .i64 b0, Value.int .i64 b1, Value.int .i64 b2])).run Tryz.prog w = .ok ((a0 == b0) && ((a1 == b1) && ((a2 == b2) && true))) w := by
  have key : ∀ d : Nat, (Op.equalIn (d + 2) 31 (.agg #[Value.int .i64 a0, Value.int .i64 a1, Value.int .i64 a2]) (.agg #[Value.int .i64 b0, Value.int .i64 b1, Value.int .i64 b2])).run Tryz.prog w = .ok ((a0 == b0) && ((a1 == b1) && ((a2 == b2) && true))) w := fun d => by
    rw [run_equalIn_struct w (d + 1) 31 _ _ (by simp [Program.fieldsOf, Tryz.underlying31]) Tryz.stoodInHeld31]
    simp only [Program.fieldsOf, Tryz.underlying31]
    simp [Op.eqFields, part, Sem.run_bind, Tryz.isAgg3, run_equalIn_int _ _ 3 _ _ _ _ Tryz.underlying3]



    repeat' (first | (split <;> simp_all; done) | split)
    all_goals simp_all
  exact key 9998
theorem eq_33 (a0 : Int) (a1 : Int) (a2 : Int) (a3 : Int) (b0 : Int) (b1 : Int) (b2 : Int) (b3 : Int) (w : World) : (Op.equal 33 (.agg #[Value.int .i64 a0, Value.int .i64 a1, Value.int .i64 a2, Value.int .i64 a3]) (.agg #[Value.int .i64 b0, Value.int .i64 b1, Value.int .i64 b2, Value.int .i64 b3])).run Tryz.prog w = .ok ((a0 == b0) && ((a1 == b1) && ((a2 == b2) && ((a3 == b3) && true)))) w := by
  have key : ∀ d : Nat, (Op.equalIn (d + 2) 33 (.agg #[Value.int .i64 a0, Value.int .i64 a1, Value.int .i64 a2, Value.int .i64 a3]) (.agg #[Value.int .i64 b0, Value.int .i64 b1, Value.int .i64 b2, Value.int .i64 b3])).run Tryz.prog w = .ok ((a0 == b0) && ((a1 == b1) && ((a2 == b2) && ((a3 == b3) && true)))) w := fun d => by
    rw [run_equalIn_struct w (d + 1) 33 _ _ (by simp [Program.fieldsOf, Tryz.underlying33]) Tryz.stoodInHeld33]
    simp only [Program.fieldsOf, Tryz.underlying33]
    simp [Op.eqFields, part, Sem.run_bind, Tryz.isAgg3, run_equalIn_int _ _ 3 _ _ _ _ Tryz.underlying3]




    repeat' (first | (split <;> simp_all; done) | split)
    all_goals simp_all
  exact key 9998
theorem eq_37 (a0 : Int) (a1 : Int) (a2 : Int) (a3 : Int) (a4 : Int) (a5 : Int) (a6 : Int) (a7 : ByteArray) (b0 : Int) (b1 : Int) (b2 : Int) (b3 : Int) (b4 : Int) (b5 : Int) (b6 : Int) (b7 : ByteArray) (w : World) : (Op.equal 37 (.agg #[Value.int .i64 a0, Value.int .u64 a1, Value.int .i64 a2, Value.int .i64 a3, Value.int .i64 a4, Value.int .i64 a5, Value.int .i64 a6, Value.string a7]) (.agg #[Value.int .i64 b0, Value.int .u64 b1, Value.int .i64 b2, Value.int .i64 b3, Value.int .i64 b4, Value.int .i64 b5, Value.int .i64 b6, Value.string b7])).run Tryz.prog w = .ok ((a0 == b0) && ((a1 == b1) && ((a2 == b2) && ((a3 == b3) && ((a4 == b4) && ((a5 == b5) && ((a6 == b6) && ((a7.toList == b7.toList) && true)))))))) w := by
  have key : ∀ d : Nat, (Op.equalIn (d + 2) 37 (.agg #[Value.int .i64 a0, Value.int .u64 a1, Value.int .i64 a2, Value.int .i64 a3, Value.int .i64 a4, Value.int .i64 a5, Value.int .i64 a6, Value.string a7]) (.agg #[Value.int .i64 b0, Value.int .u64 b1, Value.int .i64 b2, Value.int .i64 b3, Value.int .i64 b4, Value.int .i64 b5, Value.int .i64 b6, Value.string b7])).run Tryz.prog w = .ok ((a0 == b0) && ((a1 == b1) && ((a2 == b2) && ((a3 == b3) && ((a4 == b4) && ((a5 == b5) && ((a6 == b6) && ((a7.toList == b7.toList) && true)))))))) w := fun d => by
    rw [run_equalIn_struct w (d + 1) 37 _ _ (by simp [Program.fieldsOf, Tryz.underlying37]) Tryz.stoodInHeld37]
    simp only [Program.fieldsOf, Tryz.underlying37]
    simp [Op.eqFields, part, Sem.run_bind, Tryz.isAgg3, run_equalIn_int _ _ 3 _ _ _ _ Tryz.underlying3, Tryz.isAgg9, run_equalIn_string _ _ 9 _ _ Tryz.underlying9, Tryz.isAgg34, run_equalIn_int _ _ 34 _ _ _ _ Tryz.underlying34]








    repeat' (first | (split <;> simp_all; done) | split)
    all_goals simp_all
  exact key 9998
theorem eq_47 (a0 : Int) (a1 : Int) (b0 : Int) (b1 : Int) (w : World) : (Op.equal 47 (.agg #[Value.int .i64 a0, Value.int .i64 a1]) (.agg #[Value.int .i64 b0, Value.int .i64 b1])).run Tryz.prog w = .ok ((a0 == b0) && ((a1 == b1) && true)) w := by
  have key : ∀ d : Nat, (Op.equalIn (d + 2) 47 (.agg #[Value.int .i64 a0, Value.int .i64 a1]) (.agg #[Value.int .i64 b0, Value.int .i64 b1])).run Tryz.prog w = .ok ((a0 == b0) && ((a1 == b1) && true)) w := fun d => by
    rw [run_equalIn_struct w (d + 1) 47 _ _ (by simp [Program.fieldsOf, Tryz.underlying47]) Tryz.stoodInHeld47]
    simp only [Program.fieldsOf, Tryz.underlying47]
    simp [Op.eqFields, part, Sem.run_bind, Tryz.isAgg3, run_equalIn_int _ _ 3 _ _ _ _ Tryz.underlying3]


    repeat' (first | (split <;> simp_all; done) | split)
    all_goals simp_all
  exact key 9998
theorem eq_62 (a0 : Int) (a1 : Int) (b0 : Int) (b1 : Int) (w : World) : (Op.equal 62 (.agg #[Value.int .i64 a0, Value.int .u64 a1]) (.agg #[Value.int .i64 b0, Value.int .u64 b1])).run Tryz.prog w = .ok ((a0 == b0) && ((a1 == b1) && true)) w := by
  have key : ∀ d : Nat, (Op.equalIn (d + 2) 62 (.agg #[Value.int .i64 a0, Value.int .u64 a1]) (.agg #[Value.int .i64 b0, Value.int .u64 b1])).run Tryz.prog w = .ok ((a0 == b0) && ((a1 == b1) && true)) w := fun d => by
    rw [run_equalIn_struct w (d + 1) 62 _ _ (by simp [Program.fieldsOf, Tryz.underlying62]) Tryz.stoodInHeld62]
    simp only [Program.fieldsOf, Tryz.underlying62]
    simp [Op.eqFields, part, Sem.run_bind, Tryz.isAgg3, run_equalIn_int _ _ 3 _ _ _ _ Tryz.underlying3, Tryz.isAgg34, run_equalIn_int _ _ 34 _ _ _ _ Tryz.underlying34]


    repeat' (first | (split <;> simp_all; done) | split)
    all_goals simp_all
  exact key 9998
theorem eq_64 (a0 : Int) (a1 : Int) (b0 : Int) (b1 : Int) (w : World) : (Op.equal 64 (.agg #[Value.int .i64 a0, Value.int .i64 a1]) (.agg #[Value.int .i64 b0, Value.int .i64 b1])).run Tryz.prog w = .ok ((a0 == b0) && ((a1 == b1) && true)) w := by
  have key : ∀ d : Nat, (Op.equalIn (d + 2) 64 (.agg #[Value.int .i64 a0, Value.int .i64 a1]) (.agg #[Value.int .i64 b0, Value.int .i64 b1])).run Tryz.prog w = .ok ((a0 == b0) && ((a1 == b1) && true)) w := fun d => by
    rw [run_equalIn_struct w (d + 1) 64 _ _ (by simp [Program.fieldsOf, Tryz.underlying64]) Tryz.stoodInHeld64]
    simp only [Program.fieldsOf, Tryz.underlying64]
    simp [Op.eqFields, part, Sem.run_bind, Tryz.isAgg3, run_equalIn_int _ _ 3 _ _ _ _ Tryz.underlying3]


    repeat' (first | (split <;> simp_all; done) | split)
    all_goals simp_all
  exact key 9998
theorem eq_66 (a0 : Int) (a1 : Int) (a2 : Int) (a3 : Int) (b0 : Int) (b1 : Int) (b2 : Int) (b3 : Int) (w : World) : (Op.equal 66 (.agg #[Value.int .i64 a0, Value.int .i64 a1, Value.int .i64 a2, Value.int .i64 a3]) (.agg #[Value.int .i64 b0, Value.int .i64 b1, Value.int .i64 b2, Value.int .i64 b3])).run Tryz.prog w = .ok ((a0 == b0) && ((a1 == b1) && ((a2 == b2) && ((a3 == b3) && true)))) w := by
  have key : ∀ d : Nat, (Op.equalIn (d + 2) 66 (.agg #[Value.int .i64 a0, Value.int .i64 a1, Value.int .i64 a2, Value.int .i64 a3]) (.agg #[Value.int .i64 b0, Value.int .i64 b1, Value.int .i64 b2, Value.int .i64 b3])).run Tryz.prog w = .ok ((a0 == b0) && ((a1 == b1) && ((a2 == b2) && ((a3 == b3) && true)))) w := fun d => by
    rw [run_equalIn_struct w (d + 1) 66 _ _ (by simp [Program.fieldsOf, Tryz.underlying66]) Tryz.stoodInHeld66]
    simp only [Program.fieldsOf, Tryz.underlying66]
    simp [Op.eqFields, part, Sem.run_bind, Tryz.isAgg3, run_equalIn_int _ _ 3 _ _ _ _ Tryz.underlying3]




    repeat' (first | (split <;> simp_all; done) | split)
    all_goals simp_all
  exact key 9998
theorem zero_35 (w : World) : (zeroValue 35).run Tryz.prog w = .ok (.agg (List.replicate 3 (Value.int .u64 0)).toArray) w := by kernel_rfl
theorem zc_35 : (Value.agg (List.replicate 3 (Value.int .u64 0)).toArray).cells = (List.replicate 3 (Value.int .u64 0)).toArray := rfl
theorem zero_39 (w : World) : (zeroValue 39).run Tryz.prog w = .ok (.agg (List.replicate 64 (Value.int .u8 0)).toArray) w := by kernel_rfl
theorem zc_39 : (Value.agg (List.replicate 64 (Value.int .u8 0)).toArray).cells = (List.replicate 64 (Value.int .u8 0)).toArray := rfl
theorem zero_58 (w : World) : (zeroValue 58).run Tryz.prog w = .ok (.agg (List.replicate 2 (Value.int .u64 0)).toArray) w := by kernel_rfl
theorem zc_58 : (Value.agg (List.replicate 2 (Value.int .u64 0)).toArray).cells = (List.replicate 2 (Value.int .u64 0)).toArray := rfl
theorem zero_100 (w : World) : (zeroValue 100).run Tryz.prog w = .ok (.agg (List.replicate 64 (Value.int .u8 0) ++ [Value.int .i64 0]).toArray) w := by kernel_rfl
theorem zc_100 : (Value.agg (List.replicate 64 (Value.int .u8 0) ++ [Value.int .i64 0]).toArray).cells = (List.replicate 64 (Value.int .u8 0) ++ [Value.int .i64 0]).toArray := rfl
theorem zero_156 (w : World) : (zeroValue 156).run Tryz.prog w = .ok (.agg (List.replicate 8 (Value.int .u8 0)).toArray) w := by kernel_rfl
theorem zc_156 : (Value.agg (List.replicate 8 (Value.int .u8 0)).toArray).cells = (List.replicate 8 (Value.int .u8 0)).toArray := rfl
end Go.Proofs.YthdmlpjhcalliaaGreatDoor
namespace Go.Proofs.YthdmlpjhcalliaaGreatDoor
open Go Go.Wk
structure Bb where
  v : Value
  g : Value
  n : Nat
structure Bk where
  vB : Value
  vBM : Value
  vU : Value
  vUM : Value
  vP : Value
  vPM : Value
  XB : List Bb
  XU : List Bb
  XP : List Bb
  F : List RdF
def mkB (i : Nat) : UInt8 := UInt8.ofNat (i * 7 + 1)
def bF (i : Nat) (x : Bb) : List RdF := [⟨x.g, 1, x.n + 2, (List.replicate x.n (mkB i)).map bv ++ [bv (mkB i + 1), bv (mkB i + 2)]⟩, ⟨x.v, 1, x.n, (List.replicate x.n (mkB i)).map bv⟩]
def mkU (i : Nat) (b : BitVec 64) : Int × BitVec 64 := ((i : Int) + 1, b)
def uF (i : Nat) (x : Bb) : List RdF := [⟨x.g, 2, x.n + 2, prC (List.replicate x.n (mkU i 1)) ++ prC [mkU i 2, mkU i 3]⟩, ⟨x.v, 2, x.n, prC (List.replicate x.n (mkU i 1))⟩]
def mkP (i : Nat) (b : Int) : Int × Int := ((i : Int) + 1, b)
def pF (i : Nat) (x : Bb) : List RdF := [⟨x.g, 2, x.n + 2, prS (List.replicate x.n (mkP i 1)) ++ prS [mkP i 2, mkP i 3]⟩, ⟨x.v, 2, x.n, prS (List.replicate x.n (mkP i 1))⟩]
def Bk.cnt (S : Bk) : Nat := S.XB.length + S.XU.length + S.XP.length
def cov (f : Nat → Bb → List RdF) (X : List Bb) (F : List RdF) : Prop := ∀ i x, X[i]? = some x → x.n ≤ 1000000 ∧ ∀ r ∈ f i x, r ∈ F
structure BkOk (S : Bk) : Prop where
  cnt : S.cnt ≤ 200
  B : cov bF S.XB S.F
  U : cov uF S.XU S.F
  P : cov pF S.XP S.F
abbrev tSB : TypeId := 45
abbrev tSU : TypeId := 40
abbrev tSP : TypeId := 42
def bookL (k : Nat) (S : Bk) : List Res := [factR (BkOk S), blk k 28 [S.vB, S.vBM, S.vU, S.vUM, S.vP, S.vPM], rowR S.vB tSB 1 S.XB.length (S.XB.map Bb.v), rowR S.vBM tSB 1 S.XB.length (S.XB.map Bb.g), rowR S.vU tSU 1 S.XU.length (S.XU.map Bb.v), rowR S.vUM tSU 1 S.XU.length (S.XU.map Bb.g), rowR S.vP tSP 1 S.XP.length (S.XP.map Bb.v), rowR S.vPM tSP 1 S.XP.length (S.XP.map Bb.g), readsR S.F]
def bookR (k : Nat) (S : Bk) : Res := star (bookL k S)
theorem bookR_ok {k : Nat} {S : Bk} {w : World} (h : (bookR k S).holds w) : BkOk S := h.2 (factR (BkOk S)) (by simp [bookL])
theorem cov_mono {f : Nat → Bb → List RdF} {X : List Bb} {F G : List RdF} (h : cov f X F) (hs : ∀ r ∈ F, r ∈ G) : cov f X G := fun i x hx => ⟨(h i x hx).1, fun r hr => hs r ((h i x hx).2 r hr)⟩
theorem cov_snoc {f : Nat → Bb → List RdF} {X : List Bb} {F G : List RdF} {x : Bb} (h : cov f X F) (hx : ∀ r ∈ f X.length x, r ∈ G) (hn : x.n ≤ 1000000) (hs : ∀ r ∈ F, r ∈ G) : cov f (X ++ [x]) G := fun i y hy => by
  rcases Nat.lt_or_ge i X.length with h1 | h1
  · rw [List.getElem?_append_left h1] at hy
    exact ⟨(h i y hy).1, fun r hr => hs r ((h i y hy).2 r hr)⟩
  · rw [List.getElem?_append_right h1] at hy
    have hi : i = X.length := by
      have := (List.getElem?_eq_some_iff.1 hy).1
      simp at this; omega
    subst hi
    rw [Nat.sub_self] at hy
    obtain rfl : x = y := Option.some.inj hy
    exact ⟨hn, hx⟩
theorem Rep.shutB {w0 w : World} {Z : Nat → Prop} {k : Nat} {S : Bk} {F : List Res} (hok : BkOk S) (h : Rep w0 Z (blk k 28 [S.vB, S.vBM, S.vU, S.vUM, S.vP, S.vPM] :: rowR S.vB tSB 1 S.XB.length (S.XB.map Bb.v) :: rowR S.vBM tSB 1 S.XB.length (S.XB.map Bb.g) :: rowR S.vU tSU 1 S.XU.length (S.XU.map Bb.v) :: rowR S.vUM tSU 1 S.XU.length (S.XU.map Bb.g) :: rowR S.vP tSP 1 S.XP.length (S.XP.map Bb.v) :: rowR S.vPM tSP 1 S.XP.length (S.XP.map Bb.g) :: readsR S.F :: F) w) : Rep w0 Z (bookR k S :: F) w :=
  Rep.shutS (L := bookL k S) (Rep.fact hok h)
theorem row_slice {w : World} {v : Value} {e n sz : Nat} {xs : List Value} (h : (rowR v e sz n xs).holds w) : ∃ A c, v = .slice A n c := by
  rcases h.2 with ⟨rfl, rfl⟩ | ⟨b, cap, cur, rfl, _⟩
  · exact ⟨none, 0, rfl⟩
  · exact ⟨_, _, rfl⟩
theorem At.tailIs {Γ : Ctx} {E : Env} {H : List Res} {φ : Act → World → Prop} (i : Nat) {L : List RdF} {v : Value} {e sz n : Nat} {xs : List Value} (hi : H[i]? = some (tailR L v e sz n xs)) (k : ∀ A c, v = .slice A n c → At Γ E H φ) : At Γ E H φ := fun a w ha hw => by
  obtain ⟨A, c, hv⟩ := row_slice (v := v) (hw.all _ (List.mem_of_getElem? hi)).1
  exact k A c hv a w ha hw
theorem At.rowAs {Γ : Ctx} {E : Env} {H : List Res} {φ : Act → World → Prop} (i : Nat) {v : Value} {e sz n n' : Nat} {xs xs' : List Value} (hi : H[i]? = some (rowR v e sz n xs)) (hn : n = n') (hx : xs = xs') (k : At Γ E (H.set i (rowR v e sz n' xs')) φ) : At Γ E H φ := by
  subst hn hx
  refine fun a w ha hw => k a w ha (hw.change hi (Mod.refl _ _) (hw.all _ (List.mem_of_getElem? hi)) fun b hb => .inl hb)
theorem u8_add (m : UInt8) (j : Nat) (hj : j ≤ 2) : IntKind.wrap .u8 ((m.toNat : Int) + (j : Int)) = ((m + UInt8.ofNat j).toNat : Int) := by
  have h := m.toNat_lt
  rw [UInt8.toNat_add]
  match j, hj with
  | 0, _ => simp [IntKind.wrap, IntKind.bits, IntKind.signed]; omega
  | 1, _ => simp [IntKind.wrap, IntKind.bits, IntKind.signed]
  | 2, _ => simp [IntKind.wrap, IntKind.bits, IntKind.signed]
theorem keepB_g (k : Nat) (S : Bk) (v : Value) (l : List UInt8) (w : World) (hl : l.length ≤ 1000000) (hc : S.cnt < 200) (hd : (star [bookR k S, brow 5 v l]).holds w) :
    GU Tryz.prog 45 [.pointer (some ⟨k, 0, none⟩), v] (star [bookR k S, brow 5 v l]) (fun _ => .tuple #[]) (fun y => bookR k y) (fun y => y.cnt = S.cnt + 1) w := by
 obtain ⟨A, ca, rfl⟩ := row_slice (hd.2 (brow 5 v l) (by simp))
 have hok := bookR_ok (hd.2 (bookR k S) (by simp))
 refine enter (feet [star [bookR k S, brow 5 (.slice A l.length ca) l]]) [bookR k S, brow 5 (.slice A l.length ca) l] Tryz.func45 rfl Tryz.ntmps45 rfl (Rep.of_star (r := star [bookR k S, brow 5 (.slice A l.length ca) l]) hd) (At.openS 0 rfl ?_)
 simp only [bookL, List.cons_append, List.nil_append, ec0, ecS]
 refine At.drop 0 ?_
 simp only [ec0, ecS]
 have hcn : S.XB.length + S.XU.length + S.XP.length < 200 := hc
 simp only [envOf]
 refine tR (tM rfl rfl (tV (Val.nilCheck rfl) rfl (tV (Val.field 0 rfl fo_28_0 rfl) rfl (tV (Val.load (i := 0) Tryz.isAgg24 rfl rfl rfl) rfl (tV (Val.lenRow (i := 1) Tryz.underlying24 rfl rfl) rfl ?_)))))
 first | refine tV (Val.mulI rfl rfl (by omega) (by omega)) rfl ?_ | refine tV (Val.bin rfl rfl rfl) rfl ?_
 first | refine tV (Val.addI rfl rfl (by omega) (by omega)) rfl ?_ | refine tV (Val.bin rfl rfl rfl) rfl ?_
 rw [show (S.XB.length : Int) * 7 + 1 = ((S.XB.length * 7 + 1 : Nat) : Int) from by omega]
 refine tV (Val.toB Tryz.underlying3 Tryz.underlying5 rfl (Int.natCast_nonneg _)) rfl ?_
 rw [Int.toNat_natCast]
 obtain ⟨m, hm9⟩ : ∃ m, mkB S.XB.length = m := ⟨_, rfl⟩
 rw [show UInt8.ofNat (S.XB.length * 7 + 1) = m from hm9]
 refine tA rfl rfl (tE (At.seq (tR (tA rfl rfl (tE (At.block ?_))))))
 skip
 refine At.loop (σ := Nat) (fun i => i ≤ l.length) (fun i => [(0, .pointer (some ⟨k, 0, none⟩)), (1, (.slice A l.length ca)), (4, bv m), (5, .int .i64 (i : Int))]) (fun i => [blk k 28 ([S.vB, S.vBM, S.vU, S.vUM, S.vP, S.vPM]), rowR S.vB 45 1 ((S.XB).length) ((S.XB).map Bb.v), rowR S.vBM 45 1 ((S.XB).length) ((S.XB).map Bb.g), rowR S.vU 40 1 ((S.XU).length) ((S.XU).map Bb.v), rowR S.vUM 40 1 ((S.XU).length) ((S.XU).map Bb.g), rowR S.vP 42 1 ((S.XP).length) ((S.XP).map Bb.v), rowR S.vPM 42 1 ((S.XP).length) ((S.XP).map Bb.g), readsR S.F, rowR (.slice A l.length ca) 5 1 (((wrL l i m)).length) (((wrL l i m)).map bv)]) (fun i => l.length - i) 0 (Nat.zero_le _) (Sub.cons rfl (Sub.cons rfl (Sub.cons rfl (Sub.cons rfl Sub.nil)))) (by rw [wrL_0]) ?_
 intro i hs
 have hwl := wrL_len (c := m) hs
 refine At.seq (tR (tM rfl rfl (tM rfl rfl (tV (Val.lenRow (i := 8) Tryz.underlying45 rfl rfl) rfl (tV (Val.bin rfl rfl rfl) rfl (tE ?_))))))
 refine At.cond rfl (fun h1 => ?_) (fun h1 => ?_)
 ·try simp only [sB] at h1
  refine At.skipC (At.thenN (At.seq (At.block (At.region (tM rfl rfl (tM rfl rfl (tM rfl rfl (tV (Val.indexRow (i := 8) (i * 1) (by omega) Tryz.underlying45 Tryz.sizeOf5 rfl rfl rfl (by omega) (by omega)) rfl (At.storeRowB (i := 8) (q := i * 1) Tryz.sizeOf5 rfl rfl rfl (by omega) ?_)))))))))
  simp only [sc0, scS]
  rw [Nat.mul_one, wrL_set (by omega)]
  refine At.nil (At.blkN (At.thenN (At.region (tM rfl rfl ?_))))
  first | refine tV (Val.addI rfl rfl (by omega) (by omega)) rfl ?_ | refine tV (Val.bin rfl rfl rfl) rfl ?_
  refine tA rfl rfl (tE ?_)
  exact At.again (i + 1) (show i + 1 ≤ _ by omega) (by omega) (Sub.cons rfl (Sub.cons rfl (Sub.cons rfl (Sub.cons (congrArg (fun z => some (Value.int IntKind.i64 z)) (by omega)) Sub.nil)))) (List.Perm.refl _)
 ·try simp only [sB] at h1
  have hil : i = l.length := by omega
  subst hil
  rw [wrL_all]
  have hrl : (List.replicate l.length m).length = l.length := List.length_replicate
  refine At.rowTail 8 rfl (by decide) ?_
  simp only [sc0, scS]
  rw [hrl]
  refine At.exitC (At.thenX (At.thenX (At.blkX (At.thenN (tR (tM rfl rfl (tM rfl rfl (tV (Val.nilCheck rfl) rfl (tV (Val.field 0 rfl fo_28_0 rfl) rfl (tV (Val.load (i := 0) Tryz.isAgg24 rfl rfl rfl) rfl (tM rfl rfl (At.buildSl (fun a ha => by simp only [List.map_toArray, List.map_cons, List.map_nil, ha.eval (x := (.tmp 30)) rfl]; try rfl) (bs_24_1 _ _ _ ) rfl (fun b2 => (At.append (i := 2) (sz := 1) (by_ := 24) (ys := [(.slice A l.length ca)]) Tryz.underlying24 info_45 rfl rfl rfl rfl rfl rfl rfl rfl rfl (fun w hw j u hj => by rw [Nat.zero_add]; exact ((hw.blk (i := 0) rfl).cell j).trans hj) (by simp [Value.oneCell']) (by omega) (by omega) rfl (fun v3 => ?_)))))))))))))))
  simp only [sc0, scS]
  refine At.drop 0 ?_
  simp only [ec0, ecS]
  refine tV (Val.nilCheck rfl) rfl (tV (Val.field 0 rfl fo_28_0 rfl) rfl (At.rowOne (i := 1) rfl (fun h1c => (At.store (i := 0) Tryz.sizeOf24 rfl rfl h1c rfl (by simp) ?_))))
  simp only [sc0, scS]
  refine tE (tR (tM rfl rfl (tM rfl rfl (tV (Val.bin rfl rfl rfl) rfl ?_))))
  rw [show Value.int .u8 (IntKind.wrap .u8 ((m.toNat : Int) + 1)) = bv (m + 1) from by rw [show ((1 : Int)) = ((1 : Nat) : Int) from rfl, u8_add m 1 (by decide)]; rfl]
  refine tM rfl rfl (tV (Val.bin rfl rfl rfl) rfl ?_)
  rw [show Value.int .u8 (IntKind.wrap .u8 ((m.toNat : Int) + 2)) = bv (m + 2) from by rw [show ((2 : Int)) = ((2 : Nat) : Int) from rfl, u8_add m 2 (by decide)]; rfl]
  refine At.buildSl (fun a ha => by simp only [List.map_toArray, List.map_cons, List.map_nil, ha.eval (x := (.tmp 37)) rfl, ha.eval (x := (.tmp 39)) rfl]; try rfl) (bs_45_2 _ _ ) rfl (fun b4 => (At.appendT (i := 9) (by_ := 1) (ys := [bv (m + 1), bv (m + 2)]) Tryz.underlying45 info_5 rfl rfl rfl rfl rfl rfl rfl rfl rfl (fun w hw j u hj => by rw [Nat.zero_add]; exact ((hw.blk (i := 0) rfl).cell j).trans hj) (by simp [Value.oneCell', bv, b64, prC, prS, mkU, mkP]) (by omega) (by omega) rfl (fun v5 => ?_)))
  simp only [sc0, scS]
  refine At.drop 0 ?_
  simp only [ec0, ecS]
  refine At.tailIs 8 rfl (fun ag cg hv => ?_)
  subst hv
  refine At.tailEnd 8 rfl (by decide) ?_
  simp only [sc0, scS]
  refine At.joinAt 8 7 rfl rfl ?_
  simp only [ec0, ecS]
  simp only [sc0, scS]
  refine tA rfl rfl (tE (At.region (tM rfl rfl (tM rfl rfl (tV (Val.nilCheck rfl) rfl (tV (Val.field 1 rfl fo_28_1 rfl) rfl (tV (Val.load (i := 0) Tryz.isAgg24 rfl rfl rfl) rfl (tM rfl rfl (At.buildSl (fun a ha => by simp only [List.map_toArray, List.map_cons, List.map_nil, ha.eval (x := (.tmp 47)) rfl]; try rfl) (bs_24_1 _ _ _ ) rfl (fun b6 => (At.append (i := 3) (sz := 1) (by_ := 24) (ys := [(.slice ag (l.length + 2) cg)]) Tryz.underlying24 info_45 rfl rfl rfl rfl rfl rfl rfl rfl rfl (fun w hw j u hj => by rw [Nat.zero_add]; exact ((hw.blk (i := 0) rfl).cell j).trans hj) (by simp [Value.oneCell']) (by omega) (by omega) rfl (fun v7 => ?_))))))))))))
  simp only [sc0, scS]
  refine At.drop 0 ?_
  simp only [ec0, ecS]
  refine At.rowAs 1 (n' := (S.XB ++ [(⟨(.slice A l.length ca), (.slice ag (l.length + 2) cg), l.length⟩ : Bb)]).length) (xs' := (S.XB ++ [(⟨(.slice A l.length ca), (.slice ag (l.length + 2) cg), l.length⟩ : Bb)]).map Bb.v) rfl (by simp only [List.length_append, List.length_singleton]) (by rw [List.map_append]; rfl) ?_
  simp only [sc0, scS]
  refine At.rowAs 2 (n' := (S.XB ++ [(⟨(.slice A l.length ca), (.slice ag (l.length + 2) cg), l.length⟩ : Bb)]).length) (xs' := (S.XB ++ [(⟨(.slice A l.length ca), (.slice ag (l.length + 2) cg), l.length⟩ : Bb)]).map Bb.g) rfl (by simp only [List.length_append, List.length_singleton]) (by rw [List.map_append]; rfl) ?_
  simp only [sc0, scS]
  refine tV (Val.nilCheck rfl) rfl (tV (Val.field 1 rfl fo_28_1 rfl) rfl (At.rowOne (i := 2) rfl (fun h1c => (At.store (i := 0) Tryz.sizeOf24 rfl rfl h1c rfl (by simp) ?_))))
  simp only [sc0, scS]
  refine At.nil (At.ret0 (.inr rfl) rfl rfl  (fun w hw => ?_))
  have hcn9 : ({ S with vB := v3, vBM := v7, XB := S.XB ++ [⟨(.slice A l.length ca), (.slice ag (l.length + 2) cg), l.length⟩], F := [⟨(.slice ag (l.length + 2) cg), 1, l.length + 2, (List.replicate l.length m).map bv ++ [bv (m + 1), bv (m + 2)]⟩, ⟨(.slice A l.length ca), 1, l.length, (List.replicate l.length m).map bv⟩] ++ S.F } : Bk).cnt = S.cnt + 1 := by unfold Bk.cnt; simp only [List.length_append, List.length_singleton]; omega
  exact ⟨{ S with vB := v3, vBM := v7, XB := S.XB ++ [⟨(.slice A l.length ca), (.slice ag (l.length + 2) cg), l.length⟩], F := [⟨(.slice ag (l.length + 2) cg), 1, l.length + 2, (List.replicate l.length m).map bv ++ [bv (m + 1), bv (m + 2)]⟩, ⟨(.slice A l.length ca), 1, l.length, (List.replicate l.length m).map bv⟩] ++ S.F }, rfl, hcn9, Rep.shutB ⟨by omega, cov_snoc hok.B (fun r hr => List.mem_append_left _ (by unfold bF at hr; rw [hm9] at hr; exact hr)) hl (fun r hr => List.mem_append_right _ hr), cov_mono hok.U (fun r hr => List.mem_append_right _ hr), cov_mono hok.P (fun r hr => List.mem_append_right _ hr)⟩ hw⟩
theorem keepU_g (k : Nat) (S : Bk) (v : Value) (l : List (Int × BitVec 64)) (w : World) (hl : l.length ≤ 1000000) (hc : S.cnt < 200) (hd : (star [bookR k S, prow 62 v l]).holds w) :
    GU Tryz.prog 95 [.pointer (some ⟨k, 0, none⟩), v] (star [bookR k S, prow 62 v l]) (fun _ => .tuple #[]) (fun y => bookR k y) (fun y => y.cnt = S.cnt + 1) w := by
 obtain ⟨A, ca, rfl⟩ := row_slice (hd.2 (prow 62 v l) (by simp))
 have hok := bookR_ok (hd.2 (bookR k S) (by simp))
 refine enter (feet [star [bookR k S, prow 62 (.slice A l.length ca) l]]) [bookR k S, prow 62 (.slice A l.length ca) l] Tryz.func95 rfl Tryz.ntmps95 rfl (Rep.of_star (r := star [bookR k S, prow 62 (.slice A l.length ca) l]) hd) (At.openS 0 rfl ?_)
 simp only [bookL, List.cons_append, List.nil_append, ec0, ecS]
 refine At.drop 0 ?_
 simp only [ec0, ecS]
 have hcn : S.XB.length + S.XU.length + S.XP.length < 200 := hc
 simp only [envOf]
 refine tR (tM rfl rfl (tV (Val.nilCheck rfl) rfl (tV (Val.field 2 rfl fo_28_2 rfl) rfl (tV (Val.load (i := 0) Tryz.isAgg25 rfl rfl rfl) rfl (tV (Val.lenRow (i := 3) Tryz.underlying25 rfl rfl) rfl ?_)))))
 first | refine tV (Val.addI rfl rfl (by omega) (by omega)) rfl ?_ | refine tV (Val.bin rfl rfl rfl) rfl ?_
 refine tA rfl rfl (tE (At.seq (tR (tA rfl rfl (tE (At.block ?_))))))
 skip
 refine At.loop (σ := Nat) (fun i => i ≤ l.length) (fun i => [(0, .pointer (some ⟨k, 0, none⟩)), (1, (.slice A l.length ca)), (4, .int .i64 ((S.XU.length : Int) + 1)), (5, .int .i64 (i : Int))]) (fun i => [blk k 28 ([S.vB, S.vBM, S.vU, S.vUM, S.vP, S.vPM]), rowR S.vB 45 1 ((S.XB).length) ((S.XB).map Bb.v), rowR S.vBM 45 1 ((S.XB).length) ((S.XB).map Bb.g), rowR S.vU 40 1 ((S.XU).length) ((S.XU).map Bb.v), rowR S.vUM 40 1 ((S.XU).length) ((S.XU).map Bb.g), rowR S.vP 42 1 ((S.XP).length) ((S.XP).map Bb.v), rowR S.vPM 42 1 ((S.XP).length) ((S.XP).map Bb.g), readsR S.F, rowR (.slice A l.length ca) 62 2 (((wrL l i (mkU S.XU.length 1))).length) (prC ((wrL l i (mkU S.XU.length 1))))]) (fun i => l.length - i) 0 (Nat.zero_le _) (Sub.cons rfl (Sub.cons rfl (Sub.cons rfl (Sub.cons rfl Sub.nil)))) (by rw [wrL_0]) ?_
 intro i hs
 have hwl := wrL_len (c := (mkU S.XU.length 1)) hs
 refine At.seq (tR (tM rfl rfl (tM rfl rfl (tV (Val.lenRow (i := 8) Tryz.underlying40 rfl rfl) rfl (tV (Val.bin rfl rfl rfl) rfl (tE ?_))))))
 refine At.cond rfl (fun h1 => ?_) (fun h1 => ?_)
 ·try simp only [sB] at h1
  refine At.skipC (At.thenN (At.seq (At.block (At.region (tM rfl rfl (tM rfl rfl (tM rfl rfl ?_)))))))
  refine tV (Val.build (fun a ha => by simp only [List.map_toArray, List.map_cons, List.map_nil, ha.eval (x := (.tmp 21)) rfl, ha.eval (x := (.const (.int .u64 (1)))) rfl] <;> rfl) (bld_62_0_1 _ _ )) rfl (tV (Val.indexRow (i := 8) (i * 2) (by omega) Tryz.underlying40 Tryz.sizeOf62 rfl rfl rfl (by omega) (by omega)) rfl (At.storePairRow (i := 8) (k := i) (b := 1) Tryz.sizeOf62 rfl rfl rfl (by omega) ?_))
  simp only [sc0, scS]
  rw [show ((S.XU.length : Int) + 1, (1 : BitVec 64)) = mkU S.XU.length 1 from rfl, wrL_set (by omega)]
  refine At.nil (At.blkN (At.thenN (At.region (tM rfl rfl ?_))))
  first | refine tV (Val.addI rfl rfl (by omega) (by omega)) rfl ?_ | refine tV (Val.bin rfl rfl rfl) rfl ?_
  refine tA rfl rfl (tE ?_)
  exact At.again (i + 1) (show i + 1 ≤ _ by omega) (by omega) (Sub.cons rfl (Sub.cons rfl (Sub.cons rfl (Sub.cons (congrArg (fun z => some (Value.int IntKind.i64 z)) (by omega)) Sub.nil)))) (List.Perm.refl _)
 ·try simp only [sB] at h1
  have hil : i = l.length := by omega
  subst hil
  rw [wrL_all]
  have hrl : (List.replicate l.length (mkU S.XU.length 1)).length = l.length := List.length_replicate
  refine At.rowTail 8 rfl (by decide) ?_
  simp only [sc0, scS]
  rw [hrl]
  refine At.exitC (At.thenX (At.thenX (At.blkX (At.thenN (tR (tM rfl rfl (tM rfl rfl (tV (Val.nilCheck rfl) rfl (tV (Val.field 2 rfl fo_28_2 rfl) rfl (tV (Val.load (i := 0) Tryz.isAgg25 rfl rfl rfl) rfl (tM rfl rfl (At.buildSl (fun a ha => by simp only [List.map_toArray, List.map_cons, List.map_nil, ha.eval (x := (.tmp 29)) rfl]; try rfl) (bs_25_1 _ _ _ ) rfl (fun b2 => (At.append (i := 4) (sz := 1) (by_ := 24) (ys := [(.slice A l.length ca)]) Tryz.underlying25 info_40 rfl rfl rfl rfl rfl rfl rfl rfl rfl (fun w hw j u hj => by rw [Nat.zero_add]; exact ((hw.blk (i := 0) rfl).cell j).trans hj) (by simp [Value.oneCell']) (by omega) (by omega) rfl (fun v3 => ?_)))))))))))))))
  simp only [sc0, scS]
  refine At.drop 0 ?_
  simp only [ec0, ecS]
  refine tV (Val.nilCheck rfl) rfl (tV (Val.field 2 rfl fo_28_2 rfl) rfl (At.rowOne (i := 3) rfl (fun h1c => (At.store (i := 0) Tryz.sizeOf25 rfl rfl h1c rfl (by simp) ?_))))
  simp only [sc0, scS]
  refine tE (tR (tM rfl rfl (tM rfl rfl ?_)))
  refine tV (Val.build (fun a ha => by simp only [List.map_toArray, List.map_cons, List.map_nil, ha.eval (x := (.tmp 35)) rfl, ha.eval (x := (.const (.int .u64 (2)))) rfl] <;> rfl) (bld_62_0_1 _ _ )) rfl (tM rfl rfl ?_)
  refine tV (Val.build (fun a ha => by simp only [List.map_toArray, List.map_cons, List.map_nil, ha.eval (x := (.tmp 37)) rfl, ha.eval (x := (.const (.int .u64 (3)))) rfl] <;> rfl) (bld_62_0_1 _ _ )) rfl (At.buildSl (fun a ha => by simp only [List.map_toArray, List.map_cons, List.map_nil, ha.eval (x := (.tmp 36)) rfl, ha.eval (x := (.tmp 38)) rfl]; try rfl) (bs_40_2 _ _ _ _ ) rfl (fun b4 => (At.appendT (i := 9) (by_ := 16) (ys := prC [mkU S.XU.length 2, mkU S.XU.length 3]) Tryz.underlying40 info_62 rfl rfl rfl rfl rfl rfl rfl rfl rfl (fun w hw j u hj => by rw [Nat.zero_add]; exact ((hw.blk (i := 0) rfl).cell j).trans hj) (by simp [Value.oneCell', bv, b64, prC, prS, mkU, mkP]) (by omega) (by omega) rfl (fun v5 => ?_))))
  simp only [sc0, scS]
  refine At.drop 0 ?_
  simp only [ec0, ecS]
  refine At.tailIs 8 rfl (fun ag cg hv => ?_)
  subst hv
  refine At.tailEnd 8 rfl (by decide) ?_
  simp only [sc0, scS]
  refine At.joinAt 8 7 rfl rfl ?_
  simp only [ec0, ecS]
  simp only [sc0, scS]
  refine tA rfl rfl (tE (At.region (tM rfl rfl (tM rfl rfl (tV (Val.nilCheck rfl) rfl (tV (Val.field 3 rfl fo_28_3 rfl) rfl (tV (Val.load (i := 0) Tryz.isAgg25 rfl rfl rfl) rfl (tM rfl rfl (At.buildSl (fun a ha => by simp only [List.map_toArray, List.map_cons, List.map_nil, ha.eval (x := (.tmp 46)) rfl]; try rfl) (bs_25_1 _ _ _ ) rfl (fun b6 => (At.append (i := 5) (sz := 1) (by_ := 24) (ys := [(.slice ag (l.length + 2) cg)]) Tryz.underlying25 info_40 rfl rfl rfl rfl rfl rfl rfl rfl rfl (fun w hw j u hj => by rw [Nat.zero_add]; exact ((hw.blk (i := 0) rfl).cell j).trans hj) (by simp [Value.oneCell']) (by omega) (by omega) rfl (fun v7 => ?_))))))))))))
  simp only [sc0, scS]
  refine At.drop 0 ?_
  simp only [ec0, ecS]
  refine At.rowAs 3 (n' := (S.XU ++ [(⟨(.slice A l.length ca), (.slice ag (l.length + 2) cg), l.length⟩ : Bb)]).length) (xs' := (S.XU ++ [(⟨(.slice A l.length ca), (.slice ag (l.length + 2) cg), l.length⟩ : Bb)]).map Bb.v) rfl (by simp only [List.length_append, List.length_singleton]) (by rw [List.map_append]; rfl) ?_
  simp only [sc0, scS]
  refine At.rowAs 4 (n' := (S.XU ++ [(⟨(.slice A l.length ca), (.slice ag (l.length + 2) cg), l.length⟩ : Bb)]).length) (xs' := (S.XU ++ [(⟨(.slice A l.length ca), (.slice ag (l.length + 2) cg), l.length⟩ : Bb)]).map Bb.g) rfl (by simp only [List.length_append, List.length_singleton]) (by rw [List.map_append]; rfl) ?_
  simp only [sc0, scS]
  refine tV (Val.nilCheck rfl) rfl (tV (Val.field 3 rfl fo_28_3 rfl) rfl (At.rowOne (i := 4) rfl (fun h1c => (At.store (i := 0) Tryz.sizeOf25 rfl rfl h1c rfl (by simp) ?_))))
  simp only [sc0, scS]
  refine At.nil (At.ret0 (.inr rfl) rfl rfl  (fun w hw => ?_))
  have hcn9 : ({ S with vU := v3, vUM := v7, XU := S.XU ++ [⟨(.slice A l.length ca), (.slice ag (l.length + 2) cg), l.length⟩], F := [⟨(.slice ag (l.length + 2) cg), 2, l.length + 2, prC (List.replicate l.length (mkU S.XU.length 1)) ++ prC [mkU S.XU.length 2, mkU S.XU.length 3]⟩, ⟨(.slice A l.length ca), 2, l.length, prC (List.replicate l.length (mkU S.XU.length 1))⟩] ++ S.F } : Bk).cnt = S.cnt + 1 := by unfold Bk.cnt; simp only [List.length_append, List.length_singleton]; omega
  exact ⟨{ S with vU := v3, vUM := v7, XU := S.XU ++ [⟨(.slice A l.length ca), (.slice ag (l.length + 2) cg), l.length⟩], F := [⟨(.slice ag (l.length + 2) cg), 2, l.length + 2, prC (List.replicate l.length (mkU S.XU.length 1)) ++ prC [mkU S.XU.length 2, mkU S.XU.length 3]⟩, ⟨(.slice A l.length ca), 2, l.length, prC (List.replicate l.length (mkU S.XU.length 1))⟩] ++ S.F }, rfl, hcn9, Rep.shutB ⟨by omega, cov_mono hok.B (fun r hr => List.mem_append_right _ hr), cov_snoc hok.U (fun r hr => List.mem_append_left _ (by exact hr)) hl (fun r hr => List.mem_append_right _ hr), cov_mono hok.P (fun r hr => List.mem_append_right _ hr)⟩ hw⟩
theorem keepP_g (k : Nat) (S : Bk) (v : Value) (l : List (Int × Int)) (w : World) (hl : l.length ≤ 1000000) (hc : S.cnt < 200) (hd : (star [bookR k S, srow 64 v l]).holds w) :
    GU Tryz.prog 98 [.pointer (some ⟨k, 0, none⟩), v] (star [bookR k S, srow 64 v l]) (fun _ => .tuple #[]) (fun y => bookR k y) (fun y => y.cnt = S.cnt + 1) w := by
 obtain ⟨A, ca, rfl⟩ := row_slice (hd.2 (srow 64 v l) (by simp))
 have hok := bookR_ok (hd.2 (bookR k S) (by simp))
 refine enter (feet [star [bookR k S, srow 64 (.slice A l.length ca) l]]) [bookR k S, srow 64 (.slice A l.length ca) l] Tryz.func98 rfl Tryz.ntmps98 rfl (Rep.of_star (r := star [bookR k S, srow 64 (.slice A l.length ca) l]) hd) (At.openS 0 rfl ?_)
 simp only [bookL, List.cons_append, List.nil_append, ec0, ecS]
 refine At.drop 0 ?_
 simp only [ec0, ecS]
 have hcn : S.XB.length + S.XU.length + S.XP.length < 200 := hc
 simp only [envOf]
 refine tR (tM rfl rfl (tV (Val.nilCheck rfl) rfl (tV (Val.field 4 rfl fo_28_4 rfl) rfl (tV (Val.load (i := 0) Tryz.isAgg26 rfl rfl rfl) rfl (tV (Val.lenRow (i := 5) Tryz.underlying26 rfl rfl) rfl ?_)))))
 first | refine tV (Val.addI rfl rfl (by omega) (by omega)) rfl ?_ | refine tV (Val.bin rfl rfl rfl) rfl ?_
 refine tA rfl rfl (tE (At.seq (tR (tA rfl rfl (tE (At.block ?_))))))
 skip
 refine At.loop (σ := Nat) (fun i => i ≤ l.length) (fun i => [(0, .pointer (some ⟨k, 0, none⟩)), (1, (.slice A l.length ca)), (4, .int .i64 ((S.XP.length : Int) + 1)), (5, .int .i64 (i : Int))]) (fun i => [blk k 28 ([S.vB, S.vBM, S.vU, S.vUM, S.vP, S.vPM]), rowR S.vB 45 1 ((S.XB).length) ((S.XB).map Bb.v), rowR S.vBM 45 1 ((S.XB).length) ((S.XB).map Bb.g), rowR S.vU 40 1 ((S.XU).length) ((S.XU).map Bb.v), rowR S.vUM 40 1 ((S.XU).length) ((S.XU).map Bb.g), rowR S.vP 42 1 ((S.XP).length) ((S.XP).map Bb.v), rowR S.vPM 42 1 ((S.XP).length) ((S.XP).map Bb.g), readsR S.F, rowR (.slice A l.length ca) 64 2 (((wrL l i (mkP S.XP.length 1))).length) (prS ((wrL l i (mkP S.XP.length 1))))]) (fun i => l.length - i) 0 (Nat.zero_le _) (Sub.cons rfl (Sub.cons rfl (Sub.cons rfl (Sub.cons rfl Sub.nil)))) (by rw [wrL_0]) ?_
 intro i hs
 have hwl := wrL_len (c := (mkP S.XP.length 1)) hs
 refine At.seq (tR (tM rfl rfl (tM rfl rfl (tV (Val.lenRow (i := 8) Tryz.underlying42 rfl rfl) rfl (tV (Val.bin rfl rfl rfl) rfl (tE ?_))))))
 refine At.cond rfl (fun h1 => ?_) (fun h1 => ?_)
 ·try simp only [sB] at h1
  refine At.skipC (At.thenN (At.seq (At.block (At.region (tM rfl rfl (tM rfl rfl (tM rfl rfl ?_)))))))
  refine tV (Val.build (fun a ha => by simp only [List.map_toArray, List.map_cons, List.map_nil, ha.eval (x := (.tmp 21)) rfl, ha.eval (x := (.const (.int .i64 (1)))) rfl] <;> rfl) (bld_64_0_1 _ _ )) rfl (tV (Val.indexRow (i := 8) (i * 2) (by omega) Tryz.underlying42 Tryz.sizeOf64 rfl rfl rfl (by omega) (by omega)) rfl (At.storeSpanRow (i := 8) (k := i) (b := 1) Tryz.sizeOf64 rfl rfl rfl (by omega) ?_))
  simp only [sc0, scS]
  rw [show ((S.XP.length : Int) + 1, (1 : Int)) = mkP S.XP.length 1 from rfl, wrL_set (by omega)]
  refine At.nil (At.blkN (At.thenN (At.region (tM rfl rfl ?_))))
  first | refine tV (Val.addI rfl rfl (by omega) (by omega)) rfl ?_ | refine tV (Val.bin rfl rfl rfl) rfl ?_
  refine tA rfl rfl (tE ?_)
  exact At.again (i + 1) (show i + 1 ≤ _ by omega) (by omega) (Sub.cons rfl (Sub.cons rfl (Sub.cons rfl (Sub.cons (congrArg (fun z => some (Value.int IntKind.i64 z)) (by omega)) Sub.nil)))) (List.Perm.refl _)
 ·try simp only [sB] at h1
  have hil : i = l.length := by omega
  subst hil
  rw [wrL_all]
  have hrl : (List.replicate l.length (mkP S.XP.length 1)).length = l.length := List.length_replicate
  refine At.rowTail 8 rfl (by decide) ?_
  simp only [sc0, scS]
  rw [hrl]
  refine At.exitC (At.thenX (At.thenX (At.blkX (At.thenN (tR (tM rfl rfl (tM rfl rfl (tV (Val.nilCheck rfl) rfl (tV (Val.field 4 rfl fo_28_4 rfl) rfl (tV (Val.load (i := 0) Tryz.isAgg26 rfl rfl rfl) rfl (tM rfl rfl (At.buildSl (fun a ha => by simp only [List.map_toArray, List.map_cons, List.map_nil, ha.eval (x := (.tmp 29)) rfl]; try rfl) (bs_26_1 _ _ _ ) rfl (fun b2 => (At.append (i := 6) (sz := 1) (by_ := 24) (ys := [(.slice A l.length ca)]) Tryz.underlying26 info_42 rfl rfl rfl rfl rfl rfl rfl rfl rfl (fun w hw j u hj => by rw [Nat.zero_add]; exact ((hw.blk (i := 0) rfl).cell j).trans hj) (by simp [Value.oneCell']) (by omega) (by omega) rfl (fun v3 => ?_)))))))))))))))
  simp only [sc0, scS]
  refine At.drop 0 ?_
  simp only [ec0, ecS]
  refine tV (Val.nilCheck rfl) rfl (tV (Val.field 4 rfl fo_28_4 rfl) rfl (At.rowOne (i := 5) rfl (fun h1c => (At.store (i := 0) Tryz.sizeOf26 rfl rfl h1c rfl (by simp) ?_))))
  simp only [sc0, scS]
  refine tE (tR (tM rfl rfl (tM rfl rfl ?_)))
  refine tV (Val.build (fun a ha => by simp only [List.map_toArray, List.map_cons, List.map_nil, ha.eval (x := (.tmp 35)) rfl, ha.eval (x := (.const (.int .i64 (2)))) rfl] <;> rfl) (bld_64_0_1 _ _ )) rfl (tM rfl rfl ?_)
  refine tV (Val.build (fun a ha => by simp only [List.map_toArray, List.map_cons, List.map_nil, ha.eval (x := (.tmp 37)) rfl, ha.eval (x := (.const (.int .i64 (3)))) rfl] <;> rfl) (bld_64_0_1 _ _ )) rfl (At.buildSl (fun a ha => by simp only [List.map_toArray, List.map_cons, List.map_nil, ha.eval (x := (.tmp 36)) rfl, ha.eval (x := (.tmp 38)) rfl]; try rfl) (bs_42_2 _ _ _ _ ) rfl (fun b4 => (At.appendT (i := 9) (by_ := 16) (ys := prS [mkP S.XP.length 2, mkP S.XP.length 3]) Tryz.underlying42 info_64 rfl rfl rfl rfl rfl rfl rfl rfl rfl (fun w hw j u hj => by rw [Nat.zero_add]; exact ((hw.blk (i := 0) rfl).cell j).trans hj) (by simp [Value.oneCell', bv, b64, prC, prS, mkU, mkP]) (by omega) (by omega) rfl (fun v5 => ?_))))
  simp only [sc0, scS]
  refine At.drop 0 ?_
  simp only [ec0, ecS]
  refine At.tailIs 8 rfl (fun ag cg hv => ?_)
  subst hv
  refine At.tailEnd 8 rfl (by decide) ?_
  simp only [sc0, scS]
  refine At.joinAt 8 7 rfl rfl ?_
  simp only [ec0, ecS]
  simp only [sc0, scS]
  refine tA rfl rfl (tE (At.region (tM rfl rfl (tM rfl rfl (tV (Val.nilCheck rfl) rfl (tV (Val.field 5 rfl fo_28_5 rfl) rfl (tV (Val.load (i := 0) Tryz.isAgg26 rfl rfl rfl) rfl (tM rfl rfl (At.buildSl (fun a ha => by simp only [List.map_toArray, List.map_cons, List.map_nil, ha.eval (x := (.tmp 46)) rfl]; try rfl) (bs_26_1 _ _ _ ) rfl (fun b6 => (At.append (i := 7) (sz := 1) (by_ := 24) (ys := [(.slice ag (l.length + 2) cg)]) Tryz.underlying26 info_42 rfl rfl rfl rfl rfl rfl rfl rfl rfl (fun w hw j u hj => by rw [Nat.zero_add]; exact ((hw.blk (i := 0) rfl).cell j).trans hj) (by simp [Value.oneCell']) (by omega) (by omega) rfl (fun v7 => ?_))))))))))))
  simp only [sc0, scS]
  refine At.drop 0 ?_
  simp only [ec0, ecS]
  refine At.rowAs 5 (n' := (S.XP ++ [(⟨(.slice A l.length ca), (.slice ag (l.length + 2) cg), l.length⟩ : Bb)]).length) (xs' := (S.XP ++ [(⟨(.slice A l.length ca), (.slice ag (l.length + 2) cg), l.length⟩ : Bb)]).map Bb.v) rfl (by simp only [List.length_append, List.length_singleton]) (by rw [List.map_append]; rfl) ?_
  simp only [sc0, scS]
  refine At.rowAs 6 (n' := (S.XP ++ [(⟨(.slice A l.length ca), (.slice ag (l.length + 2) cg), l.length⟩ : Bb)]).length) (xs' := (S.XP ++ [(⟨(.slice A l.length ca), (.slice ag (l.length + 2) cg), l.length⟩ : Bb)]).map Bb.g) rfl (by simp only [List.length_append, List.length_singleton]) (by rw [List.map_append]; rfl) ?_
  simp only [sc0, scS]
  refine tV (Val.nilCheck rfl) rfl (tV (Val.field 5 rfl fo_28_5 rfl) rfl (At.rowOne (i := 6) rfl (fun h1c => (At.store (i := 0) Tryz.sizeOf26 rfl rfl h1c rfl (by simp) ?_))))
  simp only [sc0, scS]
  refine At.nil (At.ret0 (.inr rfl) rfl rfl  (fun w hw => ?_))
  have hcn9 : ({ S with vP := v3, vPM := v7, XP := S.XP ++ [⟨(.slice A l.length ca), (.slice ag (l.length + 2) cg), l.length⟩], F := [⟨(.slice ag (l.length + 2) cg), 2, l.length + 2, prS (List.replicate l.length (mkP S.XP.length 1)) ++ prS [mkP S.XP.length 2, mkP S.XP.length 3]⟩, ⟨(.slice A l.length ca), 2, l.length, prS (List.replicate l.length (mkP S.XP.length 1))⟩] ++ S.F } : Bk).cnt = S.cnt + 1 := by unfold Bk.cnt; simp only [List.length_append, List.length_singleton]; omega
  exact ⟨{ S with vP := v3, vPM := v7, XP := S.XP ++ [⟨(.slice A l.length ca), (.slice ag (l.length + 2) cg), l.length⟩], F := [⟨(.slice ag (l.length + 2) cg), 2, l.length + 2, prS (List.replicate l.length (mkP S.XP.length 1)) ++ prS [mkP S.XP.length 2, mkP S.XP.length 3]⟩, ⟨(.slice A l.length ca), 2, l.length, prS (List.replicate l.length (mkP S.XP.length 1))⟩] ++ S.F }, rfl, hcn9, Rep.shutB ⟨by omega, cov_mono hok.B (fun r hr => List.mem_append_right _ hr), cov_mono hok.U (fun r hr => List.mem_append_right _ hr), cov_snoc hok.P (fun r hr => List.mem_append_left _ (by exact hr)) hl (fun r hr => List.mem_append_right _ hr)⟩ hw⟩
end Go.Proofs.YthdmlpjhcalliaaGreatDoor
namespace Go.Proofs.YthdmlpjhcalliaaGreatDoor
open Go Go.Wk
theorem bh_v {w0 w : World} {Z : Nat → Prop} {H : List Res} {F : List RdF} {i n : Nat} {v : Value} {l : List UInt8} {xs : List Value} (hw : Rep w0 Z H w) (hi : H[i]? = some (readsR F)) (hm : (⟨v, 1, n, xs⟩ : RdF) ∈ F) (hl : l.length = n) (hx : xs = l.map bv) : RdB w v l := by
  subst hl hx
  exact ((hw.all _ (List.mem_of_getElem? hi)) _ hm).1
theorem pc_at {a b : Int × BitVec 64} {c : Int × BitVec 64} {n q : Nat} {ys : List (Int × BitVec 64)} (h : (List.replicate n c ++ ys)[q]? = some a) {j : Nat} {u : Value} (hu : ([.int .i64 a.1, b64 a.2] : List Value)[j]? = some u) : (prC (List.replicate n c) ++ prC ys)[q * 2 + j]? = some u := by
  rw [← prC_append]
  have := prC_at h
  match j, hu with
  | 0, hu => obtain rfl := Option.some.inj hu; exact this.1
  | 1, hu => obtain rfl := Option.some.inj hu; exact this.2
theorem ps_at {a b : Int × Int} {c : Int × Int} {n q : Nat} {ys : List (Int × Int)} (h : (List.replicate n c ++ ys)[q]? = some a) {j : Nat} {u : Value} (hu : ([.int .i64 a.1, .int .i64 a.2] : List Value)[j]? = some u) : (prS (List.replicate n c) ++ prS ys)[q * 2 + j]? = some u := by
  rw [← prS_append]
  have := prS_at h
  match j, hu with
  | 0, hu => obtain rfl := Option.some.inj hu; exact this.1
  | 1, hu => obtain rfl := Option.some.inj hu; exact this.2
theorem rp_lo {α : Type} {n j : Nat} {c : α} {ys : List α} (h : j < n) : (List.replicate n c ++ ys)[j]? = some c := by rw [List.getElem?_append_left (by simpa using h), List.getElem?_replicate, if_pos h]
theorem rp_hi {α : Type} {n j : Nat} {c : α} {ys : List α} : (List.replicate n c ++ ys)[n + j]? = ys[j]? := by rw [List.getElem?_append_right (by simp), List.length_replicate, Nat.add_sub_cancel_left]
theorem rep_at {α : Type} {n k : Nat} {m q : α} (h : (List.replicate n m)[k]? = some q) : q = m := by
  rw [List.getElem?_replicate] at h
  split at h
  · exact (Option.some.inj h).symm
  · cases h
theorem bytesHold_p (v g : Value) (n : Nat) (m : UInt8) (w : World) (hv : RdB w v (List.replicate n m)) (hg : RdB w g (List.replicate n m ++ [m + 1, m + 2])) (hn : n ≤ 1000000) :
    PureC Tryz.prog 14 [v, g, bv m] (.bool true) w := by
 refine enter0 Tryz.func14 rfl Tryz.ntmps14 rfl ?_
 have hrl : (List.replicate n m).length = n := List.length_replicate
 have hgl : (List.replicate n m ++ [m + 1, m + 2]).length = n + 2 := by rw [List.length_append, hrl]; rfl
 simp only [envOf]
 refine tR (tA rfl rfl (tE (tR (tM rfl rfl (tV (Val.lenRd hv Tryz.underlying45 rfl) rfl ?_)))))
 rw [hrl]
 refine tA rfl rfl (tE (At.seq (tR (tM rfl rfl (tV (Val.lenRd hg Tryz.underlying45 rfl) rfl ?_)))))
 rw [hgl]
 refine tM rfl rfl ?_
 first | refine tV (Val.addI rfl rfl (by omega) (by omega)) rfl ?_ | refine tV (Val.bin rfl rfl rfl) rfl ?_
 refine tV (Val.bin rfl rfl rfl) rfl ?_
 rw [show (((n + 2 : Nat) : Int) != (n : Int) + 2) = false from by rw [bne_eq_false_iff_eq]; rfl]
 refine tM rfl rfl (At.yes rfl rfl (tM rfl rfl (At.yes rfl rfl (tM rfl rfl (At.yes rfl rfl (At.idxB hg Tryz.underlying45 Tryz.sizeOf5 rfl rfl (by omega) (by omega) rfl rfl (fun b1 o2 q3 hq4 hl5 hc6 => (At.yes rfl rfl (tV (Val.loadOld Tryz.isAgg5 rfl hc6 (fun h => h)) rfl ?_)))))))))
 have e9 := hq4
 first | rw [rp_lo (by omega)] at e9 | rw [show ((n : Int)).toNat = n + 0 from rfl, rp_hi] at e9 | rw [show ((n : Int) + 1).toNat = n + 1 from by omega, rp_hi] at e9
 obtain rfl := Option.some.inj e9
 clear e9
 ·refine At.yes rfl rfl (tM rfl rfl (At.yes rfl rfl (tV (Val.bin rfl rfl rfl) rfl ?_)))
  rw [show Value.int .u8 (IntKind.wrap .u8 ((m.toNat : Int) + 1)) = bv (m + 1) from by rw [show ((1 : Int)) = ((1 : Nat) : Int) from rfl, u8_add m 1 (by decide)]; rfl]
  refine At.yes rfl rfl (tV (Val.bin rfl rfl rfl) rfl ?_)
  rw [bne_self_eq_false]
  refine tV (Val.pickF rfl rfl) rfl (tM rfl rfl (At.yes rfl rfl (tM rfl rfl (At.yes rfl rfl (tM rfl rfl (At.yes rfl rfl ?_))))))
  first | refine tV (Val.addI rfl rfl (by omega) (by omega)) rfl ?_ | refine tV (Val.bin rfl rfl rfl) rfl ?_
  refine At.yes rfl rfl (At.idxB hg Tryz.underlying45 Tryz.sizeOf5 rfl rfl (by omega) (by omega) rfl rfl (fun b7 o8 q9 hq10 hl11 hc12 => (At.yes rfl rfl (tV (Val.loadOld Tryz.isAgg5 rfl hc12 (fun h => h)) rfl ?_))))
  have e9 := hq10
  first | rw [rp_lo (by omega)] at e9 | rw [show ((n : Int)).toNat = n + 0 from rfl, rp_hi] at e9 | rw [show ((n : Int) + 1).toNat = n + 1 from by omega, rp_hi] at e9
  obtain rfl := Option.some.inj e9
  clear e9
  ·refine At.yes rfl rfl (tM rfl rfl (At.yes rfl rfl (tV (Val.bin rfl rfl rfl) rfl ?_)))
   rw [show Value.int .u8 (IntKind.wrap .u8 ((m.toNat : Int) + 2)) = bv (m + 2) from by rw [show ((2 : Int)) = ((2 : Nat) : Int) from rfl, u8_add m 2 (by decide)]; rfl]
   refine At.yes rfl rfl (tV (Val.bin rfl rfl rfl) rfl ?_)
   rw [bne_self_eq_false]
   refine tV (Val.pickF rfl rfl) rfl (tE (At.condF rfl (At.skipC (At.thenN (At.seq (tR (tA rfl rfl (tE (At.block ?_)))))))))
   skip
   refine At.loop (σ := Nat) (fun i => i ≤ n) (fun i => [(0, v), (1, g), (2, bv m), (7, .int .i64 (n : Int)), (8, .int .i64 (i : Int))]) (fun i => []) (fun i => n - i) 0 (Nat.zero_le _) (Sub.cons rfl (Sub.cons rfl (Sub.cons rfl (Sub.cons rfl (Sub.cons rfl Sub.nil))))) (List.Perm.refl _) ?_
   intro i hs
   refine At.seq (tR (tM rfl rfl (tM rfl rfl (tV (Val.bin rfl rfl rfl) rfl (tE ?_)))))
   refine At.cond rfl (fun h13 => ?_) (fun h13 => ?_)
   ·try simp only [sB] at h13
    refine At.skipC (At.thenN (At.seq (At.block (tR (tM rfl rfl (tM rfl rfl (At.idxB hv Tryz.underlying45 Tryz.sizeOf5 rfl rfl (by omega) (by omega) rfl rfl (fun b14 o15 q16 hq17 hl18 hc19 => (tV (Val.loadOld Tryz.isAgg5 rfl hc19 (fun h => h)) rfl ?_)))))))))
    obtain rfl := rep_at hq17
    ·refine tM rfl rfl (tV (Val.bin rfl rfl rfl) rfl ?_)
     rw [bne_self_eq_false]
     refine tM rfl rfl (At.yes rfl rfl (tM rfl rfl (At.yes rfl rfl (tM rfl rfl (At.yes rfl rfl (At.idxB hg Tryz.underlying45 Tryz.sizeOf5 rfl rfl (by omega) (by omega) rfl rfl (fun b20 o21 q22 hq23 hl24 hc25 => (At.yes rfl rfl (tV (Val.loadOld Tryz.isAgg5 rfl hc25 (fun h => h)) rfl ?_)))))))))
     have e9 := hq23
     first | rw [rp_lo (by omega)] at e9 | rw [show ((n : Int)).toNat = n + 0 from rfl, rp_hi] at e9 | rw [show ((n : Int) + 1).toNat = n + 1 from by omega, rp_hi] at e9
     obtain rfl := Option.some.inj e9
     clear e9
     ·refine At.yes rfl rfl (tM rfl rfl (At.yes rfl rfl (tV (Val.bin rfl rfl rfl) rfl ?_)))
      rw [bne_self_eq_false]
      refine tV (Val.pickF rfl rfl) rfl (tE (At.condF rfl (At.skipC (At.blkN (At.thenN (At.region (tM rfl rfl ?_)))))))
      first | refine tV (Val.addI rfl rfl (by omega) (by omega)) rfl ?_ | refine tV (Val.bin rfl rfl rfl) rfl ?_
      refine tA rfl rfl (tE ?_)
      exact At.again (i + 1) (show i + 1 ≤ _ by omega) (by omega) (Sub.cons rfl (Sub.cons rfl (Sub.cons rfl (Sub.cons rfl (Sub.cons (congrArg (fun z => some (Value.int IntKind.i64 z)) (by omega)) Sub.nil))))) (List.Perm.refl _)
   ·try simp only [sB] at h13
    refine At.exitC (At.thenX (At.thenX (At.blkX (At.thenN (tR (tA rfl rfl (tE (At.retC (At.ret1 (.inl rfl) rfl rfl rfl (fun w hw => ?_))))))))))
    exact ⟨rfl, hw.mod⟩
theorem holds_k (k : Nat) (S : Bk) (w : World) (hd : (bookR k S).holds w) :
    Upd Tryz.prog 5 [.pointer (some ⟨k, 0, none⟩)] (bookR k S) (.bool true) (bookR k S) w := by
 refine enter (feet [bookR k S]) (bookL k S) Tryz.func5 rfl Tryz.ntmps5 rfl (Rep.of_star (r := bookR k S) hd) ?_
 simp only [bookL]
 have hok := bookR_ok hd
 have hcn : S.XB.length + S.XU.length + S.XP.length ≤ 200 := hok.cnt
 simp only [envOf]
 refine tR (tA rfl rfl (tE (At.seq (tR (tA rfl rfl (tE (At.block ?_)))))))
 skip
 refine At.loop (σ := Nat) (fun i => i ≤ S.XB.length) (fun i => [(0, .pointer (some ⟨k, 0, none⟩)), (3, .int .i64 (i : Int))]) (fun i => [factR (BkOk S), blk k 28 ([S.vB, S.vBM, S.vU, S.vUM, S.vP, S.vPM]), rowR S.vB 45 1 ((S.XB).length) ((S.XB).map Bb.v), rowR S.vBM 45 1 ((S.XB).length) ((S.XB).map Bb.g), rowR S.vU 40 1 ((S.XU).length) ((S.XU).map Bb.v), rowR S.vUM 40 1 ((S.XU).length) ((S.XU).map Bb.g), rowR S.vP 42 1 ((S.XP).length) ((S.XP).map Bb.v), rowR S.vPM 42 1 ((S.XP).length) ((S.XP).map Bb.g), readsR S.F]) (fun i => S.XB.length - i) 0 (Nat.zero_le _) (Sub.cons rfl (Sub.cons rfl Sub.nil)) (List.Perm.refl _) ?_
 intro i hs
 refine At.seq (tR (tM rfl rfl (tM rfl rfl (tV (Val.nilCheck rfl) rfl (tV (Val.field 0 rfl fo_28_0 rfl) rfl (tV (Val.load (i := 1) Tryz.isAgg24 rfl rfl rfl) rfl (tV (Val.lenRow (i := 2) Tryz.underlying24 rfl rfl) rfl (tV (Val.bin rfl rfl rfl) rfl (tE ?_)))))))))
 refine At.cond rfl (fun h1 => ?_) (fun h1 => ?_)
 ·try simp only [sB] at h1
  obtain ⟨x, hx⟩ : ∃ x, S.XB[i]? = some x := ⟨_, List.getElem?_eq_getElem (by omega)⟩
  obtain ⟨hxn, hxf⟩ := hok.B i x hx
  have hfg := hxf _ (List.mem_cons_self ..)
  have hfv := hxf _ (List.mem_cons_of_mem _ (List.mem_cons_self ..))
  refine At.skipC (At.thenN (At.seq (At.block (At.seq (At.quiet rfl (by decide +kernel) (qM rfl rfl (qV (Val.nilCheck rfl) rfl (qV (Val.field 0 rfl fo_28_0 rfl) rfl (qV (Val.load (i := 1) Tryz.isAgg24 rfl rfl rfl) rfl (qM rfl rfl (qV (Val.indexRow (i := 2) i (by omega) Tryz.underlying24 Tryz.sizeOf45 rfl rfl rfl (by omega) (by omega)) rfl ?_)))))))))))
  refine qV (Val.loadRow (i := 2) (u := x.v) Tryz.isAgg45 rfl rfl (by rw [List.getElem?_map, hx]; rfl)) rfl ?_
  refine qM rfl rfl (qV (Val.nilCheck rfl) rfl (qV (Val.field 1 rfl fo_28_1 rfl) rfl (qV (Val.load (i := 1) Tryz.isAgg24 rfl rfl rfl) rfl (qM rfl rfl (qV (Val.indexRow (i := 3) i (by omega) Tryz.underlying24 Tryz.sizeOf45 rfl rfl rfl (by omega) (by omega)) rfl ?_)))))
  refine qV (Val.loadRow (i := 3) (u := x.g) Tryz.isAgg45 rfl rfl (by rw [List.getElem?_map, hx]; rfl)) rfl ?_
  refine qM rfl rfl ?_
  first | refine qV (Val.mulI rfl rfl (by omega) (by omega)) rfl ?_ | refine qV (Val.bin rfl rfl rfl) rfl ?_
  first | refine qV (Val.addI rfl rfl (by omega) (by omega)) rfl ?_ | refine qV (Val.bin rfl rfl rfl) rfl ?_
  rw [show (i : Int) * 7 + 1 = ((i * 7 + 1 : Nat) : Int) from by omega]
  refine qV (Val.toB Tryz.underlying3 Tryz.underlying5 rfl (Int.natCast_nonneg _)) rfl ?_
  rw [Int.toNat_natCast, show UInt8.ofNat (i * 7 + 1) = mkB i from rfl]
  refine QAt.callP (fun w hw => bytesHold_p x.v x.g x.n (mkB i) w (bh_v hw (i := 8) rfl hfv List.length_replicate rfl) (bh_v hw (i := 8) rfl hfg (by simp) (by rw [List.map_append]; rfl)) hxn) Tryz.call14 rfl rfl (qV (Val.not rfl) rfl (QAt.fin (At.thenN (At.condF rfl (At.skipC (At.blkN (At.thenN (At.region (tM rfl rfl ?_)))))))))
  first | refine tV (Val.addI rfl rfl (by omega) (by omega)) rfl ?_ | refine tV (Val.bin rfl rfl rfl) rfl ?_
  refine tA rfl rfl (tE ?_)
  exact At.again (i + 1) (show i + 1 ≤ _ by omega) (by omega) (Sub.cons rfl (Sub.cons (congrArg (fun z => some (Value.int IntKind.i64 z)) (by omega)) Sub.nil)) (List.Perm.refl _)
 ·try simp only [sB] at h1
  refine At.exitC (At.thenX (At.thenX (At.blkX (At.thenN (At.seq (tR (tA rfl rfl (tE (At.block ?_)))))))))
  skip
  refine At.loop (σ := Nat) (fun i => i ≤ S.XU.length) (fun i => [(0, .pointer (some ⟨k, 0, none⟩)), (4, .int .i64 (i : Int))]) (fun i => [factR (BkOk S), blk k 28 ([S.vB, S.vBM, S.vU, S.vUM, S.vP, S.vPM]), rowR S.vB 45 1 ((S.XB).length) ((S.XB).map Bb.v), rowR S.vBM 45 1 ((S.XB).length) ((S.XB).map Bb.g), rowR S.vU 40 1 ((S.XU).length) ((S.XU).map Bb.v), rowR S.vUM 40 1 ((S.XU).length) ((S.XU).map Bb.g), rowR S.vP 42 1 ((S.XP).length) ((S.XP).map Bb.v), rowR S.vPM 42 1 ((S.XP).length) ((S.XP).map Bb.g), readsR S.F]) (fun i => S.XU.length - i) 0 (Nat.zero_le _) (Sub.cons rfl (Sub.cons rfl Sub.nil)) (List.Perm.refl _) ?_
  intro i hs
  refine At.seq (tR (tM rfl rfl (tM rfl rfl (tV (Val.nilCheck rfl) rfl (tV (Val.field 2 rfl fo_28_2 rfl) rfl (tV (Val.load (i := 1) Tryz.isAgg25 rfl rfl rfl) rfl (tV (Val.lenRow (i := 4) Tryz.underlying25 rfl rfl) rfl (tV (Val.bin rfl rfl rfl) rfl (tE ?_)))))))))
  refine At.cond rfl (fun h2 => ?_) (fun h2 => ?_)
  ·try simp only [sB] at h2
   obtain ⟨x, hx⟩ : ∃ x, S.XU[i]? = some x := ⟨_, List.getElem?_eq_getElem (by omega)⟩
   obtain ⟨hxn, hxf⟩ := hok.U i x hx
   have hfg := hxf _ (List.mem_cons_self ..)
   have hfv := hxf _ (List.mem_cons_of_mem _ (List.mem_cons_self ..))
   refine At.skipC (At.thenN (At.seq (At.block (tR (tM rfl rfl (tV (Val.nilCheck rfl) rfl (tV (Val.field 2 rfl fo_28_2 rfl) rfl (tV (Val.load (i := 1) Tryz.isAgg25 rfl rfl rfl) rfl (tM rfl rfl (tV (Val.indexRow (i := 4) i (by omega) Tryz.underlying25 Tryz.sizeOf40 rfl rfl rfl (by omega) (by omega)) rfl ?_))))))))))
   refine tV (Val.loadRow (i := 4) (u := x.v) Tryz.isAgg40 rfl rfl (by rw [List.getElem?_map, hx]; rfl)) rfl ?_
   refine tV (show Val _ _ _ _ _ (.int .i64 ((x.n : Nat) : Int)) from Val.lenK 8 rfl hfv Tryz.underlying40 rfl) rfl (tA rfl rfl (tE (tR (tM rfl rfl (tV (Val.nilCheck rfl) rfl (tV (Val.field 3 rfl fo_28_3 rfl) rfl (tV (Val.load (i := 1) Tryz.isAgg25 rfl rfl rfl) rfl (tM rfl rfl (tV (Val.indexRow (i := 5) i (by omega) Tryz.underlying25 Tryz.sizeOf40 rfl rfl rfl (by omega) (by omega)) rfl ?_)))))))))
   refine tV (Val.loadRow (i := 5) (u := x.g) Tryz.isAgg40 rfl rfl (by rw [List.getElem?_map, hx]; rfl)) rfl ?_
   refine tA rfl rfl (tE (At.seq (At.seq ?_)))
   refine At.knowK 8 rfl hfg (by show 0 < x.n + 2; omega) (fun bg og cg hg => ?_)
   dsimp only at hg
   refine At.region (tM rfl rfl (tV (show Val _ _ _ _ _ (.int .i64 ((x.n + 2 : Nat) : Int)) from Val.lenK 8 rfl hfg Tryz.underlying40 rfl) rfl (tM rfl rfl ?_)))
   first | refine tV (Val.addI rfl rfl (by omega) (by omega)) rfl ?_ | refine tV (Val.bin rfl rfl rfl) rfl ?_
   refine tV (Val.bin rfl rfl rfl) rfl ?_
   rw [show (((x.n + 2 : Nat) : Int) != (x.n : Int) + 2) = false from by rw [bne_eq_false_iff_eq]; rfl]
   refine tM rfl rfl (At.yes rfl rfl (tM rfl rfl (At.yes rfl rfl (tM rfl rfl (At.yes rfl rfl (tV (Val.indexSl (b := bg) (o := og) (og + (x.n) * 2) (by omega) Tryz.underlying40 Tryz.sizeOf62 (congrArg some hg) rfl (by omega) (by omega)) rfl (At.yes rfl rfl (tV (Val.loadPartK 8 (q := (x.n) * 2) (vs := [.int .i64 ((i : Int) + 1), .int .u64 2]) Tryz.isAgg62 Tryz.sizeOf62 rfl rfl hfg hg rfl rfl (fun j9 u9 hu9 => pc_at (a := mkU i 2) (b := mkU i 1) (c := mkU i 1) (by first | exact rp_hi (j := 0) | exact rp_hi (j := 1)) hu9)) rfl (At.yes rfl rfl (tM rfl rfl (At.yes rfl rfl ?_)))))))))))
   first | refine tV (Val.addI rfl rfl (by omega) (by omega)) rfl ?_ | refine tV (Val.bin rfl rfl rfl) rfl ?_
   refine At.yes rfl rfl ?_
   refine tV (Val.build (fun a ha => by simp only [List.map_toArray, List.map_cons, List.map_nil, ha.eval (x := (.tmp 76)) rfl, ha.eval (x := (.const (.int .u64 (2)))) rfl] <;> rfl) (bld_62_0_1 _ _ )) rfl (At.yes rfl rfl (tV (Val.neAgg Tryz.eqGuardType62 (fun w => eq_62 _ _ _ _ w) rfl rfl) rfl ?_))
   simp only [beq_self_eq_true, Bool.and_self, Bool.and_true, Bool.not_true]
   refine tV (Val.pickF rfl rfl) rfl (tM rfl rfl (At.yes rfl rfl (tM rfl rfl (At.yes rfl rfl (tM rfl rfl (At.yes rfl rfl ?_))))))
   first | refine tV (Val.addI rfl rfl (by omega) (by omega)) rfl ?_ | refine tV (Val.bin rfl rfl rfl) rfl ?_
   refine At.yes rfl rfl (tV (Val.indexSl (b := bg) (o := og) (og + (x.n + 1) * 2) (by omega) Tryz.underlying40 Tryz.sizeOf62 (congrArg some hg) rfl (by omega) (by omega)) rfl (At.yes rfl rfl (tV (Val.loadPartK 8 (q := (x.n + 1) * 2) (vs := [.int .i64 ((i : Int) + 1), .int .u64 3]) Tryz.isAgg62 Tryz.sizeOf62 rfl rfl hfg hg rfl rfl (fun j9 u9 hu9 => pc_at (a := mkU i 3) (b := mkU i 1) (c := mkU i 1) (by first | exact rp_hi (j := 0) | exact rp_hi (j := 1)) hu9)) rfl (At.yes rfl rfl (tM rfl rfl (At.yes rfl rfl ?_))))))
   first | refine tV (Val.addI rfl rfl (by omega) (by omega)) rfl ?_ | refine tV (Val.bin rfl rfl rfl) rfl ?_
   refine At.yes rfl rfl ?_
   refine tV (Val.build (fun a ha => by simp only [List.map_toArray, List.map_cons, List.map_nil, ha.eval (x := (.tmp 87)) rfl, ha.eval (x := (.const (.int .u64 (3)))) rfl] <;> rfl) (bld_62_0_1 _ _ )) rfl (At.yes rfl rfl (tV (Val.neAgg Tryz.eqGuardType62 (fun w => eq_62 _ _ _ _ w) rfl rfl) rfl ?_))
   simp only [beq_self_eq_true, Bool.and_self, Bool.and_true, Bool.not_true]
   refine tV (Val.pickF rfl rfl) rfl (tE (At.condF rfl (At.skipC (At.thenN (tR (tA rfl rfl (tE (At.block ?_))))))))
   skip
   refine At.loop (σ := Nat) (fun j => j ≤ x.n) (fun j => [(0, .pointer (some ⟨k, 0, none⟩)), (4, .int .i64 (i : Int)), (5, .int .i64 (x.n : Int)), (6, x.g), (7, .int .i64 (j : Int))]) (fun j => [factR (BkOk S), blk k 28 ([S.vB, S.vBM, S.vU, S.vUM, S.vP, S.vPM]), rowR S.vB 45 1 ((S.XB).length) ((S.XB).map Bb.v), rowR S.vBM 45 1 ((S.XB).length) ((S.XB).map Bb.g), rowR S.vU 40 1 ((S.XU).length) ((S.XU).map Bb.v), rowR S.vUM 40 1 ((S.XU).length) ((S.XU).map Bb.g), rowR S.vP 42 1 ((S.XP).length) ((S.XP).map Bb.v), rowR S.vPM 42 1 ((S.XP).length) ((S.XP).map Bb.g), readsR S.F]) (fun j => x.n - j) 0 (Nat.zero_le _) (Sub.cons rfl (Sub.cons rfl (Sub.cons rfl (Sub.cons rfl (Sub.cons rfl Sub.nil))))) (List.Perm.refl _) ?_
   intro j hs
   refine At.seq (tR (tM rfl rfl (tM rfl rfl (tV (Val.bin rfl rfl rfl) rfl (tE ?_)))))
   refine At.cond rfl (fun h3 => ?_) (fun h3 => ?_)
   ·try simp only [sB] at h3
    refine At.knowK 8 rfl hfv (by show 0 < x.n; omega) (fun bw ow cw hv9 => ?_)
    dsimp only at hv9
    refine At.skipC (At.thenN (At.seq (At.block (At.seq (At.quiet rfl (by decide +kernel) (qM rfl rfl (qV (Val.nilCheck rfl) rfl (qV (Val.field 2 rfl fo_28_2 rfl) rfl (qV (Val.load (i := 1) Tryz.isAgg25 rfl rfl rfl) rfl (qM rfl rfl (qV (Val.indexRow (i := 4) i (by omega) Tryz.underlying25 Tryz.sizeOf40 rfl rfl rfl (by omega) (by omega)) rfl ?_)))))))))))
    refine qV (Val.loadRow (i := 4) (u := x.v) Tryz.isAgg40 rfl rfl (by rw [List.getElem?_map, hx]; rfl)) rfl ?_
    refine qM rfl rfl (qV (Val.indexSl (b := bw) (o := ow) (ow + (j) * 2) (by omega) Tryz.underlying40 Tryz.sizeOf62 (congrArg some hv9) rfl (by omega) (by omega)) rfl (qV (Val.loadPartK 8 (q := (j) * 2) (vs := [.int .i64 ((i : Int) + 1), .int .u64 1]) Tryz.isAgg62 Tryz.sizeOf62 rfl rfl hfv hv9 rfl rfl (fun j9 u9 hu9 => by have h9 := pc_at (a := mkU i 1) (b := mkU i 1) (c := mkU i 1) (ys := []) (n := x.n) (q := j) (rp_lo (by omega)) hu9; simpa [prC, prS] using h9)) rfl (qM rfl rfl ?_)))
    first | refine qV (Val.addI rfl rfl (by omega) (by omega)) rfl ?_ | refine qV (Val.bin rfl rfl rfl) rfl ?_
    refine qV (Val.build (fun a ha => by simp only [List.map_toArray, List.map_cons, List.map_nil, ha.eval (x := (.tmp 107)) rfl, ha.eval (x := (.const (.int .u64 (1)))) rfl] <;> rfl) (bld_62_0_1 _ _ )) rfl (qV (Val.neAgg Tryz.eqGuardType62 (fun w => eq_62 _ _ _ _ w) rfl rfl) rfl ?_)
    simp only [beq_self_eq_true, Bool.and_self, Bool.and_true, Bool.not_true]
    refine qM rfl rfl (QAt.yes rfl rfl (qM rfl rfl (QAt.yes rfl rfl (qM rfl rfl (QAt.yes rfl rfl (qV (Val.indexSl (b := bg) (o := og) (og + (j) * 2) (by omega) Tryz.underlying40 Tryz.sizeOf62 (congrArg some hg) rfl (by omega) (by omega)) rfl (QAt.yes rfl rfl (qV (Val.loadPartK 8 (q := (j) * 2) (vs := [.int .i64 ((i : Int) + 1), .int .u64 1]) Tryz.isAgg62 Tryz.sizeOf62 rfl rfl hfg hg rfl rfl (fun j9 u9 hu9 => pc_at (a := mkU i 1) (b := mkU i 1) (c := mkU i 1) (rp_lo (by omega)) hu9)) rfl (QAt.yes rfl rfl (qM rfl rfl (QAt.yes rfl rfl (qV (Val.nilCheck rfl) rfl (QAt.yes rfl rfl (qV (Val.field 2 rfl fo_28_2 rfl) rfl (QAt.yes rfl rfl (qV (Val.load (i := 1) Tryz.isAgg25 rfl rfl rfl) rfl (QAt.yes rfl rfl (qM rfl rfl (QAt.yes rfl rfl (qV (Val.indexRow (i := 4) i (by omega) Tryz.underlying25 Tryz.sizeOf40 rfl rfl rfl (by omega) (by omega)) rfl (QAt.yes rfl rfl ?_)))))))))))))))))))))
    refine qV (Val.loadRow (i := 4) (u := x.v) Tryz.isAgg40 rfl rfl (by rw [List.getElem?_map, hx]; rfl)) rfl ?_
    refine QAt.yes rfl rfl (qM rfl rfl (QAt.yes rfl rfl (qV (Val.indexSl (b := bw) (o := ow) (ow + (j) * 2) (by omega) Tryz.underlying40 Tryz.sizeOf62 (congrArg some hv9) rfl (by omega) (by omega)) rfl (QAt.yes rfl rfl (qV (Val.loadPartK 8 (q := (j) * 2) (vs := [.int .i64 ((i : Int) + 1), .int .u64 1]) Tryz.isAgg62 Tryz.sizeOf62 rfl rfl hfv hv9 rfl rfl (fun j9 u9 hu9 => by have h9 := pc_at (a := mkU i 1) (b := mkU i 1) (c := mkU i 1) (ys := []) (n := x.n) (q := j) (rp_lo (by omega)) hu9; simpa [prC, prS] using h9)) rfl (QAt.yes rfl rfl (qV (Val.neAgg Tryz.eqGuardType62 (fun w => eq_62 _ _ _ _ w) rfl rfl) rfl ?_)))))))
    simp only [beq_self_eq_true, Bool.and_self, Bool.and_true, Bool.not_true]
    refine qV (Val.pickF rfl rfl) rfl (QAt.fin (At.thenN (At.condF rfl (At.skipC (At.blkN (At.thenN (At.region (tM rfl rfl ?_))))))))
    first | refine tV (Val.addI rfl rfl (by omega) (by omega)) rfl ?_ | refine tV (Val.bin rfl rfl rfl) rfl ?_
    refine tA rfl rfl (tE ?_)
    exact At.again (j + 1) (show j + 1 ≤ _ by omega) (by omega) (Sub.cons rfl (Sub.cons rfl (Sub.cons rfl (Sub.cons rfl (Sub.cons (congrArg (fun z => some (Value.int IntKind.i64 z)) (by omega)) Sub.nil))))) (List.Perm.refl _)
   ·try simp only [sB] at h3
    refine At.exitC (At.thenX (At.thenX (At.blkX (At.blkN (At.thenN (At.region (tM rfl rfl ?_)))))))
    first | refine tV (Val.addI rfl rfl (by omega) (by omega)) rfl ?_ | refine tV (Val.bin rfl rfl rfl) rfl ?_
    refine tA rfl rfl (tE ?_)
    exact At.again (i + 1) (show i + 1 ≤ _ by omega) (by omega) (Sub.cons rfl (Sub.cons (congrArg (fun z => some (Value.int IntKind.i64 z)) (by omega)) Sub.nil)) (List.Perm.refl _)
  ·try simp only [sB] at h2
   refine At.exitC (At.thenX (At.thenX (At.blkX (At.thenN (At.seq (tR (tA rfl rfl (tE (At.block ?_)))))))))
   skip
   refine At.loop (σ := Nat) (fun i => i ≤ S.XP.length) (fun i => [(0, .pointer (some ⟨k, 0, none⟩)), (8, .int .i64 (i : Int))]) (fun i => [factR (BkOk S), blk k 28 ([S.vB, S.vBM, S.vU, S.vUM, S.vP, S.vPM]), rowR S.vB 45 1 ((S.XB).length) ((S.XB).map Bb.v), rowR S.vBM 45 1 ((S.XB).length) ((S.XB).map Bb.g), rowR S.vU 40 1 ((S.XU).length) ((S.XU).map Bb.v), rowR S.vUM 40 1 ((S.XU).length) ((S.XU).map Bb.g), rowR S.vP 42 1 ((S.XP).length) ((S.XP).map Bb.v), rowR S.vPM 42 1 ((S.XP).length) ((S.XP).map Bb.g), readsR S.F]) (fun i => S.XP.length - i) 0 (Nat.zero_le _) (Sub.cons rfl (Sub.cons rfl Sub.nil)) (List.Perm.refl _) ?_
   intro i hs
   refine At.seq (tR (tM rfl rfl (tM rfl rfl (tV (Val.nilCheck rfl) rfl (tV (Val.field 4 rfl fo_28_4 rfl) rfl (tV (Val.load (i := 1) Tryz.isAgg26 rfl rfl rfl) rfl (tV (Val.lenRow (i := 6) Tryz.underlying26 rfl rfl) rfl (tV (Val.bin rfl rfl rfl) rfl (tE ?_)))))))))
   refine At.cond rfl (fun h4 => ?_) (fun h4 => ?_)
   ·try simp only [sB] at h4
    obtain ⟨x, hx⟩ : ∃ x, S.XP[i]? = some x := ⟨_, List.getElem?_eq_getElem (by omega)⟩
    obtain ⟨hxn, hxf⟩ := hok.P i x hx
    have hfg := hxf _ (List.mem_cons_self ..)
    have hfv := hxf _ (List.mem_cons_of_mem _ (List.mem_cons_self ..))
    refine At.skipC (At.thenN (At.seq (At.block (tR (tM rfl rfl (tV (Val.nilCheck rfl) rfl (tV (Val.field 4 rfl fo_28_4 rfl) rfl (tV (Val.load (i := 1) Tryz.isAgg26 rfl rfl rfl) rfl (tM rfl rfl (tV (Val.indexRow (i := 6) i (by omega) Tryz.underlying26 Tryz.sizeOf42 rfl rfl rfl (by omega) (by omega)) rfl ?_))))))))))
    refine tV (Val.loadRow (i := 6) (u := x.v) Tryz.isAgg42 rfl rfl (by rw [List.getElem?_map, hx]; rfl)) rfl ?_
    refine tV (show Val _ _ _ _ _ (.int .i64 ((x.n : Nat) : Int)) from Val.lenK 8 rfl hfv Tryz.underlying42 rfl) rfl (tA rfl rfl (tE (tR (tM rfl rfl (tV (Val.nilCheck rfl) rfl (tV (Val.field 5 rfl fo_28_5 rfl) rfl (tV (Val.load (i := 1) Tryz.isAgg26 rfl rfl rfl) rfl (tM rfl rfl (tV (Val.indexRow (i := 7) i (by omega) Tryz.underlying26 Tryz.sizeOf42 rfl rfl rfl (by omega) (by omega)) rfl ?_)))))))))
    refine tV (Val.loadRow (i := 7) (u := x.g) Tryz.isAgg42 rfl rfl (by rw [List.getElem?_map, hx]; rfl)) rfl ?_
    refine tA rfl rfl (tE (At.seq (At.seq ?_)))
    refine At.knowK 8 rfl hfg (by show 0 < x.n + 2; omega) (fun bg og cg hg => ?_)
    dsimp only at hg
    refine At.region (tM rfl rfl (tV (show Val _ _ _ _ _ (.int .i64 ((x.n + 2 : Nat) : Int)) from Val.lenK 8 rfl hfg Tryz.underlying42 rfl) rfl (tM rfl rfl ?_)))
    first | refine tV (Val.addI rfl rfl (by omega) (by omega)) rfl ?_ | refine tV (Val.bin rfl rfl rfl) rfl ?_
    refine tV (Val.bin rfl rfl rfl) rfl ?_
    rw [show (((x.n + 2 : Nat) : Int) != (x.n : Int) + 2) = false from by rw [bne_eq_false_iff_eq]; rfl]
    refine tM rfl rfl (At.yes rfl rfl (tM rfl rfl (At.yes rfl rfl (tM rfl rfl (At.yes rfl rfl (tV (Val.indexSl (b := bg) (o := og) (og + (x.n) * 2) (by omega) Tryz.underlying42 Tryz.sizeOf64 (congrArg some hg) rfl (by omega) (by omega)) rfl (At.yes rfl rfl (tV (Val.loadPartK 8 (q := (x.n) * 2) (vs := [.int .i64 ((i : Int) + 1), .int .i64 2]) Tryz.isAgg64 Tryz.sizeOf64 rfl rfl hfg hg rfl rfl (fun j9 u9 hu9 => ps_at (a := mkP i 2) (b := mkP i 1) (c := mkP i 1) (by first | exact rp_hi (j := 0) | exact rp_hi (j := 1)) hu9)) rfl (At.yes rfl rfl (tM rfl rfl (At.yes rfl rfl ?_)))))))))))
    first | refine tV (Val.addI rfl rfl (by omega) (by omega)) rfl ?_ | refine tV (Val.bin rfl rfl rfl) rfl ?_
    refine At.yes rfl rfl ?_
    refine tV (Val.build (fun a ha => by simp only [List.map_toArray, List.map_cons, List.map_nil, ha.eval (x := (.tmp 162)) rfl, ha.eval (x := (.const (.int .i64 (2)))) rfl] <;> rfl) (bld_64_0_1 _ _ )) rfl (At.yes rfl rfl (tV (Val.neAgg Tryz.eqGuardType64 (fun w => eq_64 _ _ _ _ w) rfl rfl) rfl ?_))
    simp only [beq_self_eq_true, Bool.and_self, Bool.and_true, Bool.not_true]
    refine tV (Val.pickF rfl rfl) rfl (tM rfl rfl (At.yes rfl rfl (tM rfl rfl (At.yes rfl rfl (tM rfl rfl (At.yes rfl rfl ?_))))))
    first | refine tV (Val.addI rfl rfl (by omega) (by omega)) rfl ?_ | refine tV (Val.bin rfl rfl rfl) rfl ?_
    refine At.yes rfl rfl (tV (Val.indexSl (b := bg) (o := og) (og + (x.n + 1) * 2) (by omega) Tryz.underlying42 Tryz.sizeOf64 (congrArg some hg) rfl (by omega) (by omega)) rfl (At.yes rfl rfl (tV (Val.loadPartK 8 (q := (x.n + 1) * 2) (vs := [.int .i64 ((i : Int) + 1), .int .i64 3]) Tryz.isAgg64 Tryz.sizeOf64 rfl rfl hfg hg rfl rfl (fun j9 u9 hu9 => ps_at (a := mkP i 3) (b := mkP i 1) (c := mkP i 1) (by first | exact rp_hi (j := 0) | exact rp_hi (j := 1)) hu9)) rfl (At.yes rfl rfl (tM rfl rfl (At.yes rfl rfl ?_))))))
    first | refine tV (Val.addI rfl rfl (by omega) (by omega)) rfl ?_ | refine tV (Val.bin rfl rfl rfl) rfl ?_
    refine At.yes rfl rfl ?_
    refine tV (Val.build (fun a ha => by simp only [List.map_toArray, List.map_cons, List.map_nil, ha.eval (x := (.tmp 173)) rfl, ha.eval (x := (.const (.int .i64 (3)))) rfl] <;> rfl) (bld_64_0_1 _ _ )) rfl (At.yes rfl rfl (tV (Val.neAgg Tryz.eqGuardType64 (fun w => eq_64 _ _ _ _ w) rfl rfl) rfl ?_))
    simp only [beq_self_eq_true, Bool.and_self, Bool.and_true, Bool.not_true]
    refine tV (Val.pickF rfl rfl) rfl (tE (At.condF rfl (At.skipC (At.thenN (tR (tA rfl rfl (tE (At.block ?_))))))))
    skip
    refine At.loop (σ := Nat) (fun j => j ≤ x.n) (fun j => [(0, .pointer (some ⟨k, 0, none⟩)), (8, .int .i64 (i : Int)), (9, .int .i64 (x.n : Int)), (10, x.g), (11, .int .i64 (j : Int))]) (fun j => [factR (BkOk S), blk k 28 ([S.vB, S.vBM, S.vU, S.vUM, S.vP, S.vPM]), rowR S.vB 45 1 ((S.XB).length) ((S.XB).map Bb.v), rowR S.vBM 45 1 ((S.XB).length) ((S.XB).map Bb.g), rowR S.vU 40 1 ((S.XU).length) ((S.XU).map Bb.v), rowR S.vUM 40 1 ((S.XU).length) ((S.XU).map Bb.g), rowR S.vP 42 1 ((S.XP).length) ((S.XP).map Bb.v), rowR S.vPM 42 1 ((S.XP).length) ((S.XP).map Bb.g), readsR S.F]) (fun j => x.n - j) 0 (Nat.zero_le _) (Sub.cons rfl (Sub.cons rfl (Sub.cons rfl (Sub.cons rfl (Sub.cons rfl Sub.nil))))) (List.Perm.refl _) ?_
    intro j hs
    refine At.seq (tR (tM rfl rfl (tM rfl rfl (tV (Val.bin rfl rfl rfl) rfl (tE ?_)))))
    refine At.cond rfl (fun h5 => ?_) (fun h5 => ?_)
    ·try simp only [sB] at h5
     refine At.knowK 8 rfl hfv (by show 0 < x.n; omega) (fun bw ow cw hv9 => ?_)
     dsimp only at hv9
     refine At.skipC (At.thenN (At.seq (At.block (At.seq (At.quiet rfl (by decide +kernel) (qM rfl rfl (qV (Val.nilCheck rfl) rfl (qV (Val.field 4 rfl fo_28_4 rfl) rfl (qV (Val.load (i := 1) Tryz.isAgg26 rfl rfl rfl) rfl (qM rfl rfl (qV (Val.indexRow (i := 6) i (by omega) Tryz.underlying26 Tryz.sizeOf42 rfl rfl rfl (by omega) (by omega)) rfl ?_)))))))))))
     refine qV (Val.loadRow (i := 6) (u := x.v) Tryz.isAgg42 rfl rfl (by rw [List.getElem?_map, hx]; rfl)) rfl ?_
     refine qM rfl rfl (qV (Val.indexSl (b := bw) (o := ow) (ow + (j) * 2) (by omega) Tryz.underlying42 Tryz.sizeOf64 (congrArg some hv9) rfl (by omega) (by omega)) rfl (qV (Val.loadPartK 8 (q := (j) * 2) (vs := [.int .i64 ((i : Int) + 1), .int .i64 1]) Tryz.isAgg64 Tryz.sizeOf64 rfl rfl hfv hv9 rfl rfl (fun j9 u9 hu9 => by have h9 := ps_at (a := mkP i 1) (b := mkP i 1) (c := mkP i 1) (ys := []) (n := x.n) (q := j) (rp_lo (by omega)) hu9; simpa [prC, prS] using h9)) rfl (qM rfl rfl ?_)))
     first | refine qV (Val.addI rfl rfl (by omega) (by omega)) rfl ?_ | refine qV (Val.bin rfl rfl rfl) rfl ?_
     refine qV (Val.build (fun a ha => by simp only [List.map_toArray, List.map_cons, List.map_nil, ha.eval (x := (.tmp 193)) rfl, ha.eval (x := (.const (.int .i64 (1)))) rfl] <;> rfl) (bld_64_0_1 _ _ )) rfl (qV (Val.neAgg Tryz.eqGuardType64 (fun w => eq_64 _ _ _ _ w) rfl rfl) rfl ?_)
     simp only [beq_self_eq_true, Bool.and_self, Bool.and_true, Bool.not_true]
     refine qM rfl rfl (QAt.yes rfl rfl (qM rfl rfl (QAt.yes rfl rfl (qM rfl rfl (QAt.yes rfl rfl (qV (Val.indexSl (b := bg) (o := og) (og + (j) * 2) (by omega) Tryz.underlying42 Tryz.sizeOf64 (congrArg some hg) rfl (by omega) (by omega)) rfl (QAt.yes rfl rfl (qV (Val.loadPartK 8 (q := (j) * 2) (vs := [.int .i64 ((i : Int) + 1), .int .i64 1]) Tryz.isAgg64 Tryz.sizeOf64 rfl rfl hfg hg rfl rfl (fun j9 u9 hu9 => ps_at (a := mkP i 1) (b := mkP i 1) (c := mkP i 1) (rp_lo (by omega)) hu9)) rfl (QAt.yes rfl rfl (qM rfl rfl (QAt.yes rfl rfl (qV (Val.nilCheck rfl) rfl (QAt.yes rfl rfl (qV (Val.field 4 rfl fo_28_4 rfl) rfl (QAt.yes rfl rfl (qV (Val.load (i := 1) Tryz.isAgg26 rfl rfl rfl) rfl (QAt.yes rfl rfl (qM rfl rfl (QAt.yes rfl rfl (qV (Val.indexRow (i := 6) i (by omega) Tryz.underlying26 Tryz.sizeOf42 rfl rfl rfl (by omega) (by omega)) rfl (QAt.yes rfl rfl ?_)))))))))))))))))))))
     refine qV (Val.loadRow (i := 6) (u := x.v) Tryz.isAgg42 rfl rfl (by rw [List.getElem?_map, hx]; rfl)) rfl ?_
     refine QAt.yes rfl rfl (qM rfl rfl (QAt.yes rfl rfl (qV (Val.indexSl (b := bw) (o := ow) (ow + (j) * 2) (by omega) Tryz.underlying42 Tryz.sizeOf64 (congrArg some hv9) rfl (by omega) (by omega)) rfl (QAt.yes rfl rfl (qV (Val.loadPartK 8 (q := (j) * 2) (vs := [.int .i64 ((i : Int) + 1), .int .i64 1]) Tryz.isAgg64 Tryz.sizeOf64 rfl rfl hfv hv9 rfl rfl (fun j9 u9 hu9 => by have h9 := ps_at (a := mkP i 1) (b := mkP i 1) (c := mkP i 1) (ys := []) (n := x.n) (q := j) (rp_lo (by omega)) hu9; simpa [prC, prS] using h9)) rfl (QAt.yes rfl rfl (qV (Val.neAgg Tryz.eqGuardType64 (fun w => eq_64 _ _ _ _ w) rfl rfl) rfl ?_)))))))
     simp only [beq_self_eq_true, Bool.and_self, Bool.and_true, Bool.not_true]
     refine qV (Val.pickF rfl rfl) rfl (QAt.fin (At.thenN (At.condF rfl (At.skipC (At.blkN (At.thenN (At.region (tM rfl rfl ?_))))))))
     first | refine tV (Val.addI rfl rfl (by omega) (by omega)) rfl ?_ | refine tV (Val.bin rfl rfl rfl) rfl ?_
     refine tA rfl rfl (tE ?_)
     exact At.again (j + 1) (show j + 1 ≤ _ by omega) (by omega) (Sub.cons rfl (Sub.cons rfl (Sub.cons rfl (Sub.cons rfl (Sub.cons (congrArg (fun z => some (Value.int IntKind.i64 z)) (by omega)) Sub.nil))))) (List.Perm.refl _)
    ·try simp only [sB] at h5
     refine At.exitC (At.thenX (At.thenX (At.blkX (At.blkN (At.thenN (At.region (tM rfl rfl ?_)))))))
     first | refine tV (Val.addI rfl rfl (by omega) (by omega)) rfl ?_ | refine tV (Val.bin rfl rfl rfl) rfl ?_
     refine tA rfl rfl (tE ?_)
     exact At.again (i + 1) (show i + 1 ≤ _ by omega) (by omega) (Sub.cons rfl (Sub.cons (congrArg (fun z => some (Value.int IntKind.i64 z)) (by omega)) Sub.nil)) (List.Perm.refl _)
   ·try simp only [sB] at h4
    refine At.exitC (At.thenX (At.thenX (At.blkX (At.thenN (tR (tA rfl rfl (tE (At.retC (At.ret1 (.inl rfl) rfl rfl rfl (fun w hw => ?_))))))))))
    exact ⟨rfl, Rep.shutS (L := bookL k S) (F := []) hw⟩
end Go.Proofs.YthdmlpjhcalliaaGreatDoor
namespace Go.Proofs.YthdmlpjhcalliaaGreatDoor
open Go Go.Wk
def wI (n lo hi : Int) : Bool := decide (lo ≤ n) && decide (n ≤ hi)
def isDataB (p : Int) : Bool := wI p 5 1023
def isInoB (p : Int) : Bool := wI p 1 256
theorem within_p (n lo hi : Int) (w : World) :
    PureC Tryz.prog 51 [.int .i64 n, .int .i64 lo, .int .i64 hi] (.bool (wI n lo hi)) w := by
 refine enter0 Tryz.func51 rfl Tryz.ntmps51 rfl ?_
 simp only [envOf]
 refine tR (tA rfl rfl (tE (tR (tM rfl rfl (tM rfl rfl (tV (Val.bin rfl rfl rfl) rfl (tM rfl rfl ?_)))))))
 refine At.split (t := 10) rfl (fun h1 => ?_) (fun h1 => ?_)
 ·refine At.yes rfl rfl (tM rfl rfl (At.yes rfl rfl (tM rfl rfl (At.yes rfl rfl (tV (Val.bin rfl rfl rfl) rfl (tV (Val.pickT rfl rfl) rfl (tA rfl rfl (tE (At.retC (At.ret1 (.inl rfl) rfl rfl rfl (fun w hw => ?_)))))))))))
  exact ⟨by simp [wI, h1], hw.mod⟩
 ·refine At.no rfl rfl rfl rfl (At.no rfl rfl rfl rfl (At.no rfl rfl rfl rfl (tV (Val.pickF rfl rfl) rfl (tA rfl rfl (tE (At.retC (At.ret1 (.inl rfl) rfl rfl rfl (fun w hw => ?_))))))))
  exact ⟨by simp [wI, h1], hw.mod⟩
theorem isData_p (n : Int) (w : World) :
    PureC Tryz.prog 83 [.int .i64 n] (.bool (isDataB n)) w := by
 refine enter0 Tryz.func83 rfl Tryz.ntmps83 rfl ?_
 simp only [envOf]
 refine tR (tA rfl rfl (tE (tR (tM rfl rfl (At.callP (fun w hw => within_p _ _ _ w) Tryz.call51 rfl rfl (tA rfl rfl (tE (At.retC (At.ret1 (.inl rfl) rfl rfl rfl (fun w hw => ?_))))))))))
 exact ⟨rfl, hw.mod⟩
theorem isInode_p (n : Int) (w : World) :
    PureC Tryz.prog 59 [.int .i64 n] (.bool (isInoB n)) w := by
 refine enter0 Tryz.func59 rfl Tryz.ntmps59 rfl ?_
 simp only [envOf]
 refine tR (tA rfl rfl (tE (tR (tM rfl rfl (At.callP (fun w hw => within_p _ _ _ w) Tryz.call51 rfl rfl (tA rfl rfl (tE (At.retC (At.ret1 (.inl rfl) rfl rfl rfl (fun w hw => ?_))))))))))
 exact ⟨rfl, hw.mod⟩
end Go.Proofs.YthdmlpjhcalliaaGreatDoor
namespace Go.Proofs.YthdmlpjhcalliaaGreatDoor
open Go Go.Wk
def GoodSup (p i c : Int) : Prop := 24 ≤ p ∧ p ≤ 1024 ∧ 8 ≤ i ∧ i ≤ 256 ∧ i % 8 = 0 ∧ 1 ≤ c ∧ c ≤ 8 ∧ 8 ≤ p - 4 - i / 8
instance (p i c : Int) : Decidable (GoodSup p i c) := by unfold GoodSup; infer_instance
def fitV (p i c : Int) : Value := if GoodSup p i c then .tuple #[.agg #[.int .i64 p, .int .i64 i, .int .i64 c, .int .i64 (4 + i / 8)], .int .i64 0] else .tuple #[.agg #[.int .i64 0, .int .i64 0, .int .i64 0, .int .i64 0], .int .i64 30]
theorem fit_yes {p i c : Int} (h : GoodSup p i c) : fitV p i c = .tuple #[.agg #[.int .i64 p, .int .i64 i, .int .i64 c, .int .i64 (4 + i / 8)], .int .i64 0] := if_pos h
theorem fit_no {p i c : Int} (h : ¬ GoodSup p i c) : fitV p i c = .tuple #[.agg #[.int .i64 0, .int .i64 0, .int .i64 0, .int .i64 0], .int .i64 30] := if_neg h
theorem retB {a b : Bool} (h : a = b) : Ending.returned (.bool a) = .returned (.bool b) := by rw [h]
theorem retI {k : IntKind} {a b : Int} (h : a = b) : Ending.returned (.int k a) = .returned (.int k b) := by rw [h]
theorem rem8 {i : Int} (h : 0 ≤ i) : i.tmod 8 = i % 8 := Int.tmod_eq_emod_of_nonneg h
theorem quo8 {i : Int} (h : 0 ≤ i) : i.tdiv 8 = i / 8 := Int.tdiv_eq_ediv_of_nonneg h
theorem tdiv_nn {i : Int} (n : Int) (h : 0 ≤ i) : i.tdiv n = i / n := Int.tdiv_eq_ediv_of_nonneg h
theorem tmod_nn {i : Int} (n : Int) (h : 0 ≤ i) : i.tmod n = i % n := Int.tmod_eq_emod_of_nonneg h
theorem wI_T {n lo hi : Int} : wI n lo hi = true ↔ lo ≤ n ∧ n ≤ hi := by simp [wI]
theorem wI_F {n lo hi : Int} : wI n lo hi = false ↔ ¬ (lo ≤ n ∧ n ≤ hi) := by rw [← wI_T]; simp
theorem notT {b : Bool} : (!b) = true ↔ b = false := by cases b <;> simp
theorem notF {b : Bool} : (!b) = false ↔ b = true := by cases b <;> simp
theorem bneT {a b : Int} : (a != b) = true ↔ a ≠ b := by simp
theorem bneF {a b : Int} : (a != b) = false ↔ a = b := by simp
theorem beqT {a b : Int} : (a == b) = true ↔ a = b := by simp
theorem beqF {a b : Int} : (a == b) = false ↔ a ≠ b := by simp
theorem decT {p : Prop} [Decidable p] : decide p = true ↔ p := decide_eq_true_iff
theorem decF {p : Prop} [Decidable p] : decide p = false ↔ ¬ p := decide_eq_false_iff_not
def slotAt (n : Int) : Int := if isInoB n = true then 2048 + 64 * (n - 1) else -1
theorem slotAt_T {n : Int} (h : isInoB n = true) : slotAt n = 2048 + 64 * (n - 1) := if_pos h
theorem slotAt_F {n : Int} (h : isInoB n = false) : slotAt n = -1 := if_neg (by rw [h]; simp)
theorem ino_T {n : Int} : isInoB n = true ↔ 1 ≤ n ∧ n ≤ 256 := by unfold isInoB; exact wI_T
theorem ino_F {n : Int} : isInoB n = false ↔ ¬ (1 ≤ n ∧ n ≤ 256) := by unfold isInoB; exact wI_F
theorem data_T {n : Int} : isDataB n = true ↔ 5 ≤ n ∧ n ≤ 1023 := by unfold isDataB; exact wI_T
theorem data_F {n : Int} : isDataB n = false ↔ ¬ (5 ≤ n ∧ n ≤ 1023) := by unfold isDataB; exact wI_F
theorem fit_p (p i c : Int) (w : World) :
    PureC Tryz.prog 15 [.agg #[.int .i64 p, .int .i64 i, .int .i64 c]] (fitV p i c) w := by
 refine enter0 Tryz.func15 rfl Tryz.ntmps15 rfl ?_
 have e8 := @rem8 i
 have q8 := @quo8 i
 simp only [envOf]
 refine tR (At.box rfl rfl rfl (fun b1 => (At.alloc Tryz.zeroValue66 rfl rfl (fun b2 => (tA rfl rfl (tE (At.seq (tR (tV (Val.field 0 rfl fo_31_0 rfl) rfl (tV (Val.load (i := 1) Tryz.isAgg3 rfl rfl rfl) rfl (At.callP (fun w hw => within_p _ _ _ w) Tryz.call51 rfl rfl (tV (Val.not rfl) rfl (tM rfl rfl ?_)))))))))))))
 refine At.split (t := 9) rfl (fun h3 => ?_) (fun h3 => ?_)
 ·try simp only [wI_T, wI_F, notT, notF, bneT, bneF, beqT, beqF, decT, decF] at h3
  refine At.no rfl rfl rfl rfl (At.no rfl rfl rfl rfl (At.no rfl rfl rfl rfl (At.no rfl rfl rfl rfl (tV (Val.pickT rfl rfl) rfl (tM rfl rfl (At.no rfl rfl rfl rfl (At.no rfl rfl rfl rfl (At.no rfl rfl rfl rfl (At.no rfl rfl rfl rfl (tV (Val.pickT rfl rfl) rfl (tM rfl rfl (At.no rfl rfl rfl rfl (At.no rfl rfl rfl rfl (At.no rfl rfl rfl rfl (At.no rfl rfl rfl rfl (tV (Val.pickT rfl rfl) rfl (tE (At.condT rfl (tR ?_)))))))))))))))))))
  refine tV (Val.build (fun a ha => by simp only [List.map_toArray, List.map_cons, List.map_nil] <;> rfl) (bld_66_)) rfl (At.storeAll (i := 0) Tryz.sizeOf66 rfl rfl rfl (by simp [Value.oneCell']) rfl rfl ?_)
  simp only [sc0, scS]
  refine tA rfl rfl (tE (At.retC (At.thenR (At.ret2 (.inl rfl) rfl rfl (ResOf.all (i := 0) Tryz.isAgg66 Tryz.sizeOf66 rfl rfl rfl) rfl (fun w hw => ?_)))))
  exact ⟨by rw [fit_no (by unfold GoodSup; omega)], hw.mod⟩
 ·try simp only [wI_T, wI_F, notT, notF, bneT, bneF, beqT, beqF, decT, decF] at h3
  refine At.yes rfl rfl (tV (Val.field 1 rfl fo_31_1 rfl) rfl (At.yes rfl rfl (tV (Val.load (i := 1) Tryz.isAgg3 rfl rfl rfl) rfl (At.yes rfl rfl (At.callP (fun w hw => within_p _ _ _ w) Tryz.call51 rfl rfl (At.yes rfl rfl (tV (Val.not rfl) rfl (tV (Val.pickF rfl rfl) rfl (tM rfl rfl ?_)))))))))
  refine At.split (t := 15) rfl (fun h4 => ?_) (fun h4 => ?_)
  ·try simp only [wI_T, wI_F, notT, notF, bneT, bneF, beqT, beqF, decT, decF] at h4
   refine At.no rfl rfl rfl rfl (At.no rfl rfl rfl rfl (At.no rfl rfl rfl rfl (At.no rfl rfl rfl rfl (tV (Val.pickT rfl rfl) rfl (tM rfl rfl (At.no rfl rfl rfl rfl (At.no rfl rfl rfl rfl (At.no rfl rfl rfl rfl (At.no rfl rfl rfl rfl (tV (Val.pickT rfl rfl) rfl (tE (At.condT rfl (tR ?_)))))))))))))
   refine tV (Val.build (fun a ha => by simp only [List.map_toArray, List.map_cons, List.map_nil] <;> rfl) (bld_66_)) rfl (At.storeAll (i := 0) Tryz.sizeOf66 rfl rfl rfl (by simp [Value.oneCell']) rfl rfl ?_)
   simp only [sc0, scS]
   refine tA rfl rfl (tE (At.retC (At.thenR (At.ret2 (.inl rfl) rfl rfl (ResOf.all (i := 0) Tryz.isAgg66 Tryz.sizeOf66 rfl rfl rfl) rfl (fun w hw => ?_)))))
   exact ⟨by rw [fit_no (by unfold GoodSup; omega)], hw.mod⟩
  ·try simp only [wI_T, wI_F, notT, notF, bneT, bneF, beqT, beqF, decT, decF] at h4
   refine At.yes rfl rfl (tV (Val.field 1 rfl fo_31_1 rfl) rfl (At.yes rfl rfl (tV (Val.load (i := 1) Tryz.isAgg3 rfl rfl rfl) rfl (At.yes rfl rfl (tV (Val.rem rfl rfl (by decide)) rfl (At.yes rfl rfl (tV (Val.bin rfl rfl rfl) rfl (tV (Val.pickF rfl rfl) rfl (tM rfl rfl ?_)))))))))
   refine At.split (t := 21) rfl (fun h5 => ?_) (fun h5 => ?_)
   ·try simp only [wI_T, wI_F, notT, notF, bneT, bneF, beqT, beqF, decT, decF] at h5
    refine At.no rfl rfl rfl rfl (At.no rfl rfl rfl rfl (At.no rfl rfl rfl rfl (At.no rfl rfl rfl rfl (tV (Val.pickT rfl rfl) rfl (tE (At.condT rfl (tR ?_)))))))
    refine tV (Val.build (fun a ha => by simp only [List.map_toArray, List.map_cons, List.map_nil] <;> rfl) (bld_66_)) rfl (At.storeAll (i := 0) Tryz.sizeOf66 rfl rfl rfl (by simp [Value.oneCell']) rfl rfl ?_)
    simp only [sc0, scS]
    refine tA rfl rfl (tE (At.retC (At.thenR (At.ret2 (.inl rfl) rfl rfl (ResOf.all (i := 0) Tryz.isAgg66 Tryz.sizeOf66 rfl rfl rfl) rfl (fun w hw => ?_)))))
    exact ⟨by rw [fit_no (by unfold GoodSup; omega)], hw.mod⟩
   ·try simp only [wI_T, wI_F, notT, notF, bneT, bneF, beqT, beqF, decT, decF] at h5
    refine At.yes rfl rfl (tV (Val.field 2 rfl fo_31_2 rfl) rfl (At.yes rfl rfl (tV (Val.load (i := 1) Tryz.isAgg3 rfl rfl rfl) rfl (At.yes rfl rfl (At.callP (fun w hw => within_p _ _ _ w) Tryz.call51 rfl rfl (At.yes rfl rfl (tV (Val.not rfl) rfl (tV (Val.pickF rfl rfl) rfl (tE ?_)))))))))
    refine At.cond rfl (fun h6 => ?_) (fun h6 => ?_)
    ·try simp only [wI_T, wI_F, notT, notF, bneT, bneF, beqT, beqF, decT, decF] at h6
     refine tR ?_
     refine tV (Val.build (fun a ha => by simp only [List.map_toArray, List.map_cons, List.map_nil] <;> rfl) (bld_66_)) rfl (At.storeAll (i := 0) Tryz.sizeOf66 rfl rfl rfl (by simp [Value.oneCell']) rfl rfl ?_)
     simp only [sc0, scS]
     refine tA rfl rfl (tE (At.retC (At.thenR (At.ret2 (.inl rfl) rfl rfl (ResOf.all (i := 0) Tryz.isAgg66 Tryz.sizeOf66 rfl rfl rfl) rfl (fun w hw => ?_)))))
     exact ⟨by rw [fit_no (by unfold GoodSup; omega)], hw.mod⟩
    ·try simp only [wI_T, wI_F, notT, notF, bneT, bneF, beqT, beqF, decT, decF] at h6
     refine At.skipC (At.thenN (tR (tV (Val.field 1 rfl fo_31_1 rfl) rfl (tV (Val.load (i := 1) Tryz.isAgg3 rfl rfl rfl) rfl (tV (Val.bin rfl rfl rfl) rfl (tV (Val.bin rfl rfl rfl) rfl (tV (Val.quo rfl rfl (by decide)) rfl (tA rfl rfl (At.nil ?_)))))))))
     refine At.weaken [(1, .pointer (some ⟨b1, 0, none⟩)), (2, .pointer (some ⟨b2, 0, none⟩)), (4, .int .i64 (4 + i / 8))] (Sub.cons rfl (Sub.cons rfl (Sub.cons (congrArg (fun z => some (Value.int IntKind.i64 z)) (by rw [wrap_i64 (n := i * 64) (by omega) (by omega), wrap_i64 (n := 2048 + i * 64) (by omega) (by omega), tdiv_nn _ (by omega), wrap_i64 (by omega) (by omega)]; omega)) Sub.nil))) (At.thenN (At.seq (tR (tV (Val.field 0 rfl fo_31_0 rfl) rfl (tV (Val.load (i := 1) Tryz.isAgg3 rfl rfl rfl) rfl (tM rfl rfl (tV (Val.bin rfl rfl rfl) rfl ?_)))))))
     rw [wrap_i64 (by omega) (by omega)]
     refine tV (Val.bin rfl rfl rfl) rfl (tE ?_)
     refine At.cond rfl (fun h7 => ?_) (fun h7 => ?_)
     ·try simp only [wI_T, wI_F, notT, notF, bneT, bneF, beqT, beqF, decT, decF] at h7
      refine tR ?_
      refine tV (Val.build (fun a ha => by simp only [List.map_toArray, List.map_cons, List.map_nil] <;> rfl) (bld_66_)) rfl (At.storeAll (i := 0) Tryz.sizeOf66 rfl rfl rfl (by simp [Value.oneCell']) rfl rfl ?_)
      simp only [sc0, scS]
      refine tA rfl rfl (tE (At.retC (At.thenR (At.ret2 (.inl rfl) rfl rfl (ResOf.all (i := 0) Tryz.isAgg66 Tryz.sizeOf66 rfl rfl rfl) rfl (fun w hw => ?_)))))
      exact ⟨by rw [fit_no (by unfold GoodSup; omega)], hw.mod⟩
     ·try simp only [wI_T, wI_F, notT, notF, bneT, bneF, beqT, beqF, decT, decF] at h7
      refine At.skipC (At.thenN (tR (tV (Val.field 0 rfl fo_31_0 rfl) rfl (tV (Val.load (i := 1) Tryz.isAgg3 rfl rfl rfl) rfl (tV (Val.field 1 rfl fo_31_1 rfl) rfl (tV (Val.load (i := 1) Tryz.isAgg3 rfl rfl rfl) rfl (tV (Val.field 2 rfl fo_31_2 rfl) rfl (tV (Val.load (i := 1) Tryz.isAgg3 rfl rfl rfl) rfl (tM rfl rfl ?_)))))))))
      refine tV (Val.build (fun a ha => by simp only [List.map_toArray, List.map_cons, List.map_nil, ha.eval (x := (.tmp 40)) rfl, ha.eval (x := (.tmp 42)) rfl, ha.eval (x := (.tmp 44)) rfl, ha.eval (x := (.tmp 45)) rfl] <;> rfl) (bld_66_0_1_2_3 _ _ _ _ )) rfl (At.storeAll (i := 0) Tryz.sizeOf66 rfl rfl rfl (by simp [Value.oneCell']) rfl rfl ?_)
      simp only [sc0, scS]
      refine tA rfl rfl (tE (At.retC (At.ret2 (.inl rfl) rfl rfl (ResOf.all (i := 0) Tryz.isAgg66 Tryz.sizeOf66 rfl rfl rfl) rfl (fun w hw => ?_))))
      exact ⟨by rw [fit_yes (by unfold GoodSup; omega)], hw.mod⟩
theorem goodSup_p (p i c : Int) (w : World) (hp : -9223372036854775808 ≤ p ∧ p ≤ 9223372036854775807) :
    PureC Tryz.prog 52 [.agg #[.int .i64 p, .int .i64 i, .int .i64 c]] (.bool (decide (GoodSup p i c))) w := by
 refine enter0 Tryz.func52 rfl Tryz.ntmps52 rfl ?_
 have e8 := @rem8 i
 have q8 := @quo8 i
 simp only [envOf]
 refine tR (At.box rfl rfl rfl (fun b1 => (tA rfl rfl (tE (At.seq (tR (tV (Val.field 0 rfl fo_31_0 rfl) rfl (tV (Val.load (i := 0) Tryz.isAgg3 rfl rfl rfl) rfl (tV (Val.bin rfl rfl rfl) rfl (tM rfl rfl ?_))))))))))
 refine At.split (t := 6) rfl (fun h2 => ?_) (fun h2 => ?_)
 ·try simp only [wI_T, wI_F, notT, notF, bneT, bneF, beqT, beqF, decT, decF] at h2
  refine At.no rfl rfl rfl rfl (At.no rfl rfl rfl rfl (At.no rfl rfl rfl rfl (tV (Val.pickT rfl rfl) rfl (tM rfl rfl (At.no rfl rfl rfl rfl (At.no rfl rfl rfl rfl (At.no rfl rfl rfl rfl (tV (Val.pickT rfl rfl) rfl (tM rfl rfl (At.no rfl rfl rfl rfl (At.no rfl rfl rfl rfl (At.no rfl rfl rfl rfl (tV (Val.pickT rfl rfl) rfl (tE (At.condT rfl (tR (tA rfl rfl (tE (At.retC (At.thenR (At.ret1 (.inl rfl) rfl rfl rfl (fun w hw => ?_))))))))))))))))))))))
  exact ⟨by rw [decide_eq_false (by unfold GoodSup; omega)], hw.mod⟩
 ·try simp only [wI_T, wI_F, notT, notF, bneT, bneF, beqT, beqF, decT, decF] at h2
  refine At.yes rfl rfl (tV (Val.field 0 rfl fo_31_0 rfl) rfl (At.yes rfl rfl (tV (Val.load (i := 0) Tryz.isAgg3 rfl rfl rfl) rfl (At.yes rfl rfl (tV (Val.bin rfl rfl rfl) rfl (tV (Val.pickF rfl rfl) rfl (tM rfl rfl ?_)))))))
  refine At.split (t := 11) rfl (fun h3 => ?_) (fun h3 => ?_)
  ·try simp only [wI_T, wI_F, notT, notF, bneT, bneF, beqT, beqF, decT, decF] at h3
   refine At.no rfl rfl rfl rfl (At.no rfl rfl rfl rfl (At.no rfl rfl rfl rfl (tV (Val.pickT rfl rfl) rfl (tM rfl rfl (At.no rfl rfl rfl rfl (At.no rfl rfl rfl rfl (At.no rfl rfl rfl rfl (tV (Val.pickT rfl rfl) rfl (tE (At.condT rfl (tR (tA rfl rfl (tE (At.retC (At.thenR (At.ret1 (.inl rfl) rfl rfl rfl (fun w hw => ?_)))))))))))))))))
   exact ⟨by rw [decide_eq_false (by unfold GoodSup; omega)], hw.mod⟩
  ·try simp only [wI_T, wI_F, notT, notF, bneT, bneF, beqT, beqF, decT, decF] at h3
   refine At.yes rfl rfl (tV (Val.field 2 rfl fo_31_2 rfl) rfl (At.yes rfl rfl (tV (Val.load (i := 0) Tryz.isAgg3 rfl rfl rfl) rfl (At.yes rfl rfl (tV (Val.bin rfl rfl rfl) rfl (tV (Val.pickF rfl rfl) rfl (tM rfl rfl ?_)))))))
   refine At.split (t := 16) rfl (fun h4 => ?_) (fun h4 => ?_)
   ·try simp only [wI_T, wI_F, notT, notF, bneT, bneF, beqT, beqF, decT, decF] at h4
    refine At.no rfl rfl rfl rfl (At.no rfl rfl rfl rfl (At.no rfl rfl rfl rfl (tV (Val.pickT rfl rfl) rfl (tE (At.condT rfl (tR (tA rfl rfl (tE (At.retC (At.thenR (At.ret1 (.inl rfl) rfl rfl rfl (fun w hw => ?_))))))))))))
    exact ⟨by rw [decide_eq_false (by unfold GoodSup; omega)], hw.mod⟩
   ·try simp only [wI_T, wI_F, notT, notF, bneT, bneF, beqT, beqF, decT, decF] at h4
    refine At.yes rfl rfl (tV (Val.field 2 rfl fo_31_2 rfl) rfl (At.yes rfl rfl (tV (Val.load (i := 0) Tryz.isAgg3 rfl rfl rfl) rfl (At.yes rfl rfl (tV (Val.bin rfl rfl rfl) rfl (tV (Val.pickF rfl rfl) rfl (tE ?_)))))))
    refine At.cond rfl (fun h5 => ?_) (fun h5 => ?_)
    ·try simp only [wI_T, wI_F, notT, notF, bneT, bneF, beqT, beqF, decT, decF] at h5
     refine tR (tA rfl rfl (tE (At.retC (At.thenR (At.ret1 (.inl rfl) rfl rfl rfl (fun w hw => ?_))))))
     exact ⟨by rw [decide_eq_false (by unfold GoodSup; omega)], hw.mod⟩
    ·try simp only [wI_T, wI_F, notT, notF, bneT, bneF, beqT, beqF, decT, decF] at h5
     refine At.skipC (At.thenN (At.seq (tR (tV (Val.field 1 rfl fo_31_1 rfl) rfl (tV (Val.load (i := 0) Tryz.isAgg3 rfl rfl rfl) rfl (tV (Val.bin rfl rfl rfl) rfl (tM rfl rfl ?_)))))))
     refine At.split (t := 24) rfl (fun h6 => ?_) (fun h6 => ?_)
     ·try simp only [wI_T, wI_F, notT, notF, bneT, bneF, beqT, beqF, decT, decF] at h6
      refine At.no rfl rfl rfl rfl (At.no rfl rfl rfl rfl (At.no rfl rfl rfl rfl (tV (Val.pickT rfl rfl) rfl (tM rfl rfl (At.no rfl rfl rfl rfl (At.no rfl rfl rfl rfl (At.no rfl rfl rfl rfl (At.no rfl rfl rfl rfl (tV (Val.pickT rfl rfl) rfl (tE (At.condT rfl (tR (tA rfl rfl (tE (At.retC (At.thenR (At.ret1 (.inl rfl) rfl rfl rfl (fun w hw => ?_))))))))))))))))))
      exact ⟨by rw [decide_eq_false (by unfold GoodSup; omega)], hw.mod⟩
     ·try simp only [wI_T, wI_F, notT, notF, bneT, bneF, beqT, beqF, decT, decF] at h6
      refine At.yes rfl rfl (tV (Val.field 1 rfl fo_31_1 rfl) rfl (At.yes rfl rfl (tV (Val.load (i := 0) Tryz.isAgg3 rfl rfl rfl) rfl (At.yes rfl rfl (tV (Val.bin rfl rfl rfl) rfl (tV (Val.pickF rfl rfl) rfl (tM rfl rfl ?_)))))))
      refine At.split (t := 29) rfl (fun h7 => ?_) (fun h7 => ?_)
      ·try simp only [wI_T, wI_F, notT, notF, bneT, bneF, beqT, beqF, decT, decF] at h7
       refine At.no rfl rfl rfl rfl (At.no rfl rfl rfl rfl (At.no rfl rfl rfl rfl (At.no rfl rfl rfl rfl (tV (Val.pickT rfl rfl) rfl (tE (At.condT rfl (tR (tA rfl rfl (tE (At.retC (At.thenR (At.ret1 (.inl rfl) rfl rfl rfl (fun w hw => ?_)))))))))))))
       exact ⟨by rw [decide_eq_false (by unfold GoodSup; omega)], hw.mod⟩
      ·try simp only [wI_T, wI_F, notT, notF, bneT, bneF, beqT, beqF, decT, decF] at h7
       refine At.yes rfl rfl (tV (Val.field 1 rfl fo_31_1 rfl) rfl (At.yes rfl rfl (tV (Val.load (i := 0) Tryz.isAgg3 rfl rfl rfl) rfl (At.yes rfl rfl (tV (Val.rem rfl rfl (by decide)) rfl (At.yes rfl rfl (tV (Val.bin rfl rfl rfl) rfl (tV (Val.pickF rfl rfl) rfl (tE ?_)))))))))
       refine At.cond rfl (fun h8 => ?_) (fun h8 => ?_)
       ·try simp only [wI_T, wI_F, notT, notF, bneT, bneF, beqT, beqF, decT, decF] at h8
        refine tR (tA rfl rfl (tE (At.retC (At.thenR (At.ret1 (.inl rfl) rfl rfl rfl (fun w hw => ?_))))))
        exact ⟨by rw [decide_eq_false (by unfold GoodSup; omega)], hw.mod⟩
       ·try simp only [wI_T, wI_F, notT, notF, bneT, bneF, beqT, beqF, decT, decF] at h8
        refine At.skipC (At.thenN (tR (tV (Val.field 0 rfl fo_31_0 rfl) rfl (tV (Val.load (i := 0) Tryz.isAgg3 rfl rfl rfl) rfl (tV (Val.bin rfl rfl rfl) rfl (tV (Val.field 1 rfl fo_31_1 rfl) rfl (tV (Val.load (i := 0) Tryz.isAgg3 rfl rfl rfl) rfl (tV (Val.quo rfl rfl (by decide)) rfl (tV (Val.bin rfl rfl rfl) rfl (tV (Val.bin rfl rfl rfl) rfl (tA rfl rfl (tE (At.retC (At.ret1 (.inl rfl) rfl rfl rfl (fun w hw => ?_)))))))))))))))
        exact ⟨by rw [wrap_i64 (n := p - 4) (by omega) (by omega), quo8 (by omega), wrap_i64 (n := i / 8) (by omega) (by omega), wrap_i64 (by omega) (by omega)]; refine retB (Bool.eq_iff_iff.2 ?_); simp only [decide_eq_true_eq]; unfold GoodSup; omega, hw.mod⟩
theorem fitR_p (p i c : Int) (w : World) (hp : -9223372036854775808 ≤ p ∧ p ≤ 9223372036854775807) :
    PureC Tryz.prog 16 [.agg #[.int .i64 p, .int .i64 i, .int .i64 c]] (fitV p i c) w := by
 refine enter0 Tryz.func16 rfl Tryz.ntmps16 rfl ?_
 have e8 := @rem8 i
 have q8 := @quo8 i
 simp only [envOf]
 refine tR (At.box rfl rfl rfl (fun b1 => (At.alloc Tryz.zeroValue66 rfl rfl (fun b2 => (tA rfl rfl (tE (At.seq (tR (tV (Val.loadAll (i := 1) Tryz.isAgg31 Tryz.sizeOf31 rfl rfl rfl) rfl (At.callP (fun w hw => goodSup_p _ _ _ w hp) Tryz.call52 rfl rfl (tV (Val.not rfl) rfl (tE ?_))))))))))))
 refine At.cond rfl (fun h3 => ?_) (fun h3 => ?_)
 ·try simp only [wI_T, wI_F, notT, notF, bneT, bneF, beqT, beqF, decT, decF] at h3
  refine tR ?_
  refine tV (Val.build (fun a ha => by simp only [List.map_toArray, List.map_cons, List.map_nil] <;> rfl) (bld_66_)) rfl (At.storeAll (i := 0) Tryz.sizeOf66 rfl rfl rfl (by simp [Value.oneCell']) rfl rfl ?_)
  simp only [sc0, scS]
  refine tA rfl rfl (tE (At.retC (At.thenR (At.ret2 (.inl rfl) rfl rfl (ResOf.all (i := 0) Tryz.isAgg66 Tryz.sizeOf66 rfl rfl rfl) rfl (fun w hw => ?_)))))
  exact ⟨by rw [fit_no ‹¬ GoodSup p i c›], hw.mod⟩
 ·try simp only [wI_T, wI_F, notT, notF, bneT, bneF, beqT, beqF, decT, decF] at h3
  refine At.skipC (At.thenN (tR (tV (Val.field 0 rfl fo_31_0 rfl) rfl (tV (Val.load (i := 1) Tryz.isAgg3 rfl rfl rfl) rfl (tV (Val.field 1 rfl fo_31_1 rfl) rfl (tV (Val.load (i := 1) Tryz.isAgg3 rfl rfl rfl) rfl (tV (Val.field 2 rfl fo_31_2 rfl) rfl (tV (Val.load (i := 1) Tryz.isAgg3 rfl rfl rfl) rfl (tV (Val.field 1 rfl fo_31_1 rfl) rfl (tV (Val.load (i := 1) Tryz.isAgg3 rfl rfl rfl) rfl ?_))))))))))
  have hg : GoodSup p i c := ‹GoodSup p i c›
  have hg' := hg
  unfold GoodSup at hg'
  refine tV (Val.quo rfl rfl (by decide)) rfl ?_
  rw [quo8 (by omega), wrap_i64 (by omega) (by omega)]
  refine tV (Val.bin rfl rfl rfl) rfl ?_
  rw [wrap_i64 (by omega) (by omega)]
  refine tV (Val.build (fun a ha => by simp only [List.map_toArray, List.map_cons, List.map_nil, ha.eval (x := (.tmp 9)) rfl, ha.eval (x := (.tmp 11)) rfl, ha.eval (x := (.tmp 13)) rfl, ha.eval (x := (.tmp 17)) rfl] <;> rfl) (bld_66_0_1_2_3 _ _ _ _ )) rfl (At.storeAll (i := 0) Tryz.sizeOf66 rfl rfl rfl (by simp [Value.oneCell']) rfl rfl ?_)
  simp only [sc0, scS]
  refine tA rfl rfl (tE (At.retC (At.ret2 (.inl rfl) rfl rfl (ResOf.all (i := 0) Tryz.isAgg66 Tryz.sizeOf66 rfl rfl rfl) rfl (fun w hw => ?_))))
  exact ⟨by rw [fit_yes hg], hw.mod⟩
theorem dataR_p (n : Int) (w : World) :
    PureC Tryz.prog 80 [.int .i64 n] (.bool (isDataB n)) w := by
 refine enter0 Tryz.func80 rfl Tryz.ntmps80 rfl ?_
 simp only [envOf]
 refine tR (tA rfl rfl (tE (tR (tM rfl rfl (tV (Val.bin rfl rfl rfl) rfl (tM rfl rfl ?_))))))
 refine At.split (t := 5) rfl (fun h1 => ?_) (fun h1 => ?_)
 ·refine At.yes rfl rfl (tM rfl rfl (At.yes rfl rfl (tV (Val.bin rfl rfl rfl) rfl (tV (Val.pickT rfl rfl) rfl (tA rfl rfl (tE (At.retC (At.ret1 (.inl rfl) rfl rfl rfl (fun w hw => ?_)))))))))
  exact ⟨by refine retB (Bool.eq_iff_iff.2 ?_); simp only [decide_eq_true_eq, data_T]; simp at h1; omega, hw.mod⟩
 ·refine At.no rfl rfl rfl rfl (At.no rfl rfl rfl rfl (tV (Val.pickF rfl rfl) rfl (tA rfl rfl (tE (At.retC (At.ret1 (.inl rfl) rfl rfl rfl (fun w hw => ?_)))))))
  exact ⟨by refine retB (Eq.symm ?_); rw [data_F]; simp at h1; omega, hw.mod⟩
theorem inodeR_p (n : Int) (w : World) :
    PureC Tryz.prog 60 [.int .i64 n] (.bool (isInoB n)) w := by
 refine enter0 Tryz.func60 rfl Tryz.ntmps60 rfl ?_
 simp only [envOf]
 refine tR (tA rfl rfl (tE (tR (tM rfl rfl (tV (Val.bin rfl rfl rfl) rfl (tM rfl rfl ?_))))))
 refine At.split (t := 5) rfl (fun h1 => ?_) (fun h1 => ?_)
 ·refine At.yes rfl rfl (tM rfl rfl (At.yes rfl rfl (tV (Val.bin rfl rfl rfl) rfl (tV (Val.pickT rfl rfl) rfl (tA rfl rfl (tE (At.retC (At.ret1 (.inl rfl) rfl rfl rfl (fun w hw => ?_)))))))))
  exact ⟨by refine retB (Bool.eq_iff_iff.2 ?_); simp only [decide_eq_true_eq, ino_T]; simp at h1; omega, hw.mod⟩
 ·refine At.no rfl rfl rfl rfl (At.no rfl rfl rfl rfl (tV (Val.pickF rfl rfl) rfl (tA rfl rfl (tE (At.retC (At.ret1 (.inl rfl) rfl rfl rfl (fun w hw => ?_)))))))
  exact ⟨by refine retB (Eq.symm ?_); rw [ino_F]; simp at h1; omega, hw.mod⟩
theorem slotAt_p (n : Int) (w : World) :
    PureC Tryz.prog 19 [.int .i64 n] (.int .i64 (slotAt n)) w := by
 refine enter0 Tryz.func19 rfl Tryz.ntmps19 rfl ?_
 simp only [envOf]
 refine tR (tA rfl rfl (tE (At.seq (tR (tM rfl rfl (At.callP (fun w hw => isInode_p _ w) Tryz.call59 rfl rfl (tV (Val.not rfl) rfl (tE ?_))))))))
 refine At.cond rfl (fun h1 => ?_) (fun h1 => ?_)
 ·try simp only [notT, notF] at h1
  refine tR (tA rfl rfl (tE (At.retC (At.thenR (At.ret1 (.inl rfl) rfl rfl rfl (fun w hw => ?_))))))
  exact ⟨by rw [slotAt_F h1], hw.mod⟩
 ·try simp only [notT, notF] at h1
  refine At.skipC (At.thenN (tR (tM rfl rfl (tV (Val.bin rfl rfl rfl) rfl (tV (Val.bin rfl rfl rfl) rfl (tV (Val.bin rfl rfl rfl) rfl (tA rfl rfl (tE (At.retC (At.ret1 (.inl rfl) rfl rfl rfl (fun w hw => ?_)))))))))))
  exact ⟨by rw [slotAt_T h1]; have h2 := ino_T.1 h1; refine retI ?_; rw [wrap_i64 (n := n - 1) (by omega) (by omega), wrap_i64 (n := (n - 1) * 64) (by omega) (by omega), wrap_i64 (by omega) (by omega)]; omega, hw.mod⟩
theorem slotAtR_p (n : Int) (w : World) :
    PureC Tryz.prog 20 [.int .i64 n] (.int .i64 (slotAt n)) w := by
 refine enter0 Tryz.func20 rfl Tryz.ntmps20 rfl ?_
 simp only [envOf]
 refine tR (tA rfl rfl (tE (At.seq (tR (tM rfl rfl (At.callP (fun w hw => inodeR_p _ w) Tryz.call60 rfl rfl (tV (Val.not rfl) rfl (tE ?_))))))))
 refine At.cond rfl (fun h1 => ?_) (fun h1 => ?_)
 ·try simp only [notT, notF] at h1
  refine tR (tA rfl rfl (tE (At.retC (At.thenR (At.ret1 (.inl rfl) rfl rfl rfl (fun w hw => ?_))))))
  exact ⟨by rw [slotAt_F h1], hw.mod⟩
 ·try simp only [notT, notF] at h1
  refine At.skipC (At.thenN (tR (tM rfl rfl (tV (Val.bin rfl rfl rfl) rfl (tV (Val.bin rfl rfl rfl) rfl (tV (Val.bin rfl rfl rfl) rfl (tA rfl rfl (tE (At.retC (At.ret1 (.inl rfl) rfl rfl rfl (fun w hw => ?_)))))))))))
  exact ⟨by rw [slotAt_T h1]; have h2 := ino_T.1 h1; refine retI ?_; rw [wrap_i64 (n := n - 1) (by omega) (by omega), wrap_i64 (n := 64 * (n - 1)) (by omega) (by omega), wrap_i64 (by omega) (by omega)], hw.mod⟩
end Go.Proofs.YthdmlpjhcalliaaGreatDoor
namespace Go.Proofs.YthdmlpjhcalliaaGreatDoor
open Go Go.Wk
theorem sumOn_p (s : BitVec 32) (A : Option Addr) (l : List UInt8) (c : Nat) (w : World) (hb : Bytes w A l) (ht : Tab w) (hlen : l.length ≤ 140737488355328) :
    PureC Tryz.prog 107 [b32 s, .slice A l.length c] (b32 (sumOn s l)) w := by
 refine enter0 Tryz.func107 rfl Tryz.ntmps107 rfl ?_
 simp only [envOf]
 refine tR (tA rfl rfl (tE (tR (tM rfl rfl (tV (Val.com rfl) rfl (tA rfl rfl (tE (At.seq (tR (tM rfl rfl (tV (Val.len (bt := #[]) Tryz.underlying45 rfl) rfl (tM rfl rfl (tE (At.block ?_))))))))))))))
 skip
 refine At.loop (σ := Nat) (fun k => k ≤ l.length) (fun k => [(5, b32 (crc (~~~s) (l.take k))), (10, .slice A l.length c), (11, .int .i64 l.length), (12, .int .i64 k)]) (fun k => []) (fun k => l.length - k) 0 (Nat.zero_le _) (Sub.cons (congrArg (fun z => some (Value.int IntKind.u32 z)) (com32 s)) (Sub.cons rfl (Sub.cons rfl (Sub.cons rfl Sub.nil)))) (List.Perm.refl _) ?_
 intro k hs
 refine tR (tV (Val.bin rfl rfl rfl) rfl (tE (At.seq ?_)))
 refine At.cond rfl (fun h1 => ?_) (fun h1 => ?_)
 ·have hk : k < l.length := by simpa using h1
  obtain ⟨c', hc'⟩ : ∃ c', l[k]? = some c' := ⟨_, List.getElem?_eq_getElem hk⟩
  obtain ⟨b, o, rfl, hcell⟩ := hb k c' hc'
  refine At.skipC (At.thenN (At.seq (At.block (tR (tV (Val.indexSl (o + k) (by simp) Tryz.underlying45 Tryz.sizeOf5 rfl rfl (by omega) (by omega)) rfl (tV (Val.loadOld Tryz.isAgg5 rfl hcell (fun h => h)) rfl (tA rfl rfl (tE (tR (tM rfl rfl (tM rfl rfl (tV (Val.conv Tryz.underlying5 Tryz.underlying41 rfl) rfl (tV (Val.bin rfl rfl rfl) rfl (tA rfl rfl (At.nil (At.weaken [(5, b32 ((crc (~~~s) (l.take k)) ^^^ BitVec.ofNat 32 c'.toNat)), (10, .slice (some ⟨b, o, none⟩) l.length c), (11, .int .i64 l.length), (12, .int .i64 k)] (Sub.cons (congrArg (fun z => some (Value.int IntKind.u32 z)) (by rw [wrap_u32_nat, xor32])) (Sub.cons rfl (Sub.cons rfl (Sub.cons rfl Sub.nil)))) (At.thenN (tR (tM rfl rfl (tV (Val.bin rfl rfl rfl) rfl ?_))))))))))))))))))))
  refine tV (Val.indexArr (((crc (~~~s) (l.take k)) ^^^ BitVec.ofNat 32 c'.toNat) &&& 15).toNat (by rw [and15 ((crc (~~~s) (l.take k)) ^^^ BitVec.ofNat 32 c'.toNat)]; simp) Tryz.underlying167 Tryz.sizeOf41 rfl rfl (by rw [and15 ((crc (~~~s) (l.take k)) ^^^ BitVec.ofNat 32 c'.toNat)]; omega) (by rw [and15 ((crc (~~~s) (l.take k)) ^^^ BitVec.ofNat 32 c'.toNat)]; have := and15_lt ((crc (~~~s) (l.take k)) ^^^ BitVec.ofNat 32 c'.toNat); omega)) rfl (tV (Val.loadOld Tryz.isAgg41 rfl (ht _ (and15_lt ((crc (~~~s) (l.take k)) ^^^ BitVec.ofNat 32 c'.toNat))) (fun h => h)) rfl (tM rfl rfl (tV (Val.shr rfl rfl (by decide)) rfl (tV (Val.bin rfl rfl rfl) rfl (tA rfl rfl (At.nil ?_))))))
  refine At.weaken [(5, b32 (step4 ((crc (~~~s) (l.take k)) ^^^ BitVec.ofNat 32 c'.toNat))), (10, .slice (some ⟨b, o, none⟩) l.length c), (11, .int .i64 l.length), (12, .int .i64 k)] (Sub.cons (congrArg (fun z => some (Value.int IntKind.u32 z)) (by rw [show (((crc (~~~s) (l.take k)) ^^^ BitVec.ofNat 32 c'.toNat).toNat : Int).fdiv (2 ^ min (4 : Int).toNat IntKind.u32.bits) = (((crc (~~~s) (l.take k)) ^^^ BitVec.ofNat 32 c'.toNat) >>> 4).toNat from shr32 _ 4 (by decide), xor32]; rfl)) (Sub.cons rfl (Sub.cons rfl (Sub.cons rfl Sub.nil)))) (At.thenN (At.region (tM rfl rfl (tV (Val.bin rfl rfl rfl) rfl ?_))))
  refine tV (Val.indexArr ((step4 ((crc (~~~s) (l.take k)) ^^^ BitVec.ofNat 32 c'.toNat)) &&& 15).toNat (by rw [and15 (step4 ((crc (~~~s) (l.take k)) ^^^ BitVec.ofNat 32 c'.toNat))]; simp) Tryz.underlying167 Tryz.sizeOf41 rfl rfl (by rw [and15 (step4 ((crc (~~~s) (l.take k)) ^^^ BitVec.ofNat 32 c'.toNat))]; omega) (by rw [and15 (step4 ((crc (~~~s) (l.take k)) ^^^ BitVec.ofNat 32 c'.toNat))]; have := and15_lt (step4 ((crc (~~~s) (l.take k)) ^^^ BitVec.ofNat 32 c'.toNat)); omega)) rfl (tV (Val.loadOld Tryz.isAgg41 rfl (ht _ (and15_lt (step4 ((crc (~~~s) (l.take k)) ^^^ BitVec.ofNat 32 c'.toNat)))) (fun h => h)) rfl (tM rfl rfl (tV (Val.shr rfl rfl (by decide)) rfl (tV (Val.bin rfl rfl rfl) rfl (tA rfl rfl (At.nil ?_))))))
  refine At.weaken [(5, b32 (crc (~~~s) (l.take (k + 1)))), (10, .slice (some ⟨b, o, none⟩) l.length c), (11, .int .i64 l.length), (12, .int .i64 k)] (Sub.cons (congrArg (fun z => some (Value.int IntKind.u32 z)) (by rw [show ((step4 ((crc (~~~s) (l.take k)) ^^^ BitVec.ofNat 32 c'.toNat)).toNat : Int).fdiv (2 ^ min (4 : Int).toNat IntKind.u32.bits) = ((step4 ((crc (~~~s) (l.take k)) ^^^ BitVec.ofNat 32 c'.toNat)) >>> 4).toNat from shr32 _ 4 (by decide), xor32]; rw [crc_take_succ _ _ _ _ hc']; rfl)) (Sub.cons rfl (Sub.cons rfl (Sub.cons rfl Sub.nil)))) (At.blkN (At.thenN (At.region (tV (Val.bin rfl rfl rfl) rfl (tM rfl rfl (tE ?_))))))
  exact At.again (k + 1) (by omega) (by omega) (Sub.cons rfl (Sub.cons rfl (Sub.cons rfl (Sub.cons (by rw [wrap_i64 (by omega) (by omega)]; rfl) Sub.nil)))) (List.Perm.refl _)
 ·have hk : k = l.length := by have := h1; simp at this; omega
  refine At.exitC (At.thenX (At.thenX (At.blkX (At.thenN (tR (tM rfl rfl (tV (Val.com rfl) rfl (tA rfl rfl (tE (At.retC (At.ret1 (.inl rfl) rfl rfl rfl (fun w hw => ?_))))))))))))
  exact ⟨by rw [com32, hk, List.take_length]; rfl, hw.mod⟩
theorem sum_p (A : Option Addr) (l : List UInt8) (c : Nat) (w : World) (hb : Bytes w A l) (ht : Tab w) (hlen : l.length ≤ 140737488355328) :
    PureC Tryz.prog 86 [.slice A l.length c] (b32 (sumOn 0 l)) w := by
 refine enter0 Tryz.func86 rfl Tryz.ntmps86 rfl ?_
 simp only [envOf]
 refine tR (tA rfl rfl (tE (tR (tM rfl rfl (At.callP (fun w hw => sumOn_p 0 _ _ _ w (hb.mod hw.mod) (ht.mod hw.mod) hlen) Tryz.call107 rfl rfl (tA rfl rfl (tE (At.retC (At.ret1 (.inl rfl) rfl rfl rfl (fun w hw => ?_))))))))))
 exact ⟨rfl, hw.mod⟩
theorem sum_n (A : Option Addr) (l : List UInt8) (n c : Nat) (w : World) (hn : l.length = n) (hb : Bytes w A l) (ht : Tab w) (hlen : n ≤ 140737488355328) : PureC Tryz.prog 86 [.slice A n c] (b32 (sumOn 0 l)) w := by
  subst hn; exact sum_p A l c w hb ht hlen
theorem sumOn_n (s : BitVec 32) (A : Option Addr) (l : List UInt8) (n c : Nat) (w : World) (hn : l.length = n) (hb : Bytes w A l) (ht : Tab w) (hlen : n ≤ 140737488355328) : PureC Tryz.prog 107 [b32 s, .slice A n c] (b32 (sumOn s l)) w := by
  subst hn; exact sumOn_p s A l c w hb ht hlen
end Go.Proofs.YthdmlpjhcalliaaGreatDoor
namespace Go.Proofs.YthdmlpjhcalliaaGreatDoor
open Go Go.Wk
theorem lay_p (x : BitVec 64) (w : World) :
    PureC Tryz.prog 106 [b64 x] (.agg ((le 8 x.toNat).map bv).toArray) w := by
 refine enter0 Tryz.func106 rfl Tryz.ntmps106 rfl ?_
 simp only [envOf]
 refine tR (At.alloc zero_156 zc_156 rfl (fun b1 => (tE (tR (At.alloc zero_156 zc_156 rfl (fun b2 => (tE (At.seq (tR (tM rfl rfl (tE (At.block ?_))))))))))))
 skip
 refine At.loop (σ := Nat) (fun k => k ≤ 8) (fun k => [(0, b64 x), (2, .pointer (some ⟨b1, 0, none⟩)), (3, .pointer (some ⟨b2, 0, none⟩)), (5, .int .i64 k)]) (fun k => [blk b2 156 ((fillTo (le 8 x.toNat) (zs 8) k).map bv), blk b1 156 (List.replicate 8 (Value.int .u8 0))]) (fun k => 8 - k) 0 (by omega) (Sub.cons rfl (Sub.cons rfl (Sub.cons rfl (Sub.cons rfl Sub.nil)))) (List.Perm.refl _) ?_
 intro k hs
 refine tR (tV (Val.bin rfl rfl rfl) rfl (tE (At.seq ?_)))
 refine At.cond rfl (fun h3 => ?_) (fun h3 => ?_)
 ·have hk : k < 8 := by have := h3; simp at this; omega
  have e8 : (8 * (k : Int)).toNat = 8 * k := by omega
  have hc := le_get 8 x.toNat k hk
  refine At.skipC (At.thenN (At.seq (At.block (tR (tM rfl rfl (tA rfl rfl (tE (At.region (tM rfl rfl (tM rfl rfl (tM rfl rfl (tV (Val.bin rfl rfl rfl) rfl ?_))))))))))))
  refine tV (Val.shr rfl rfl (by rw [wrap_i64 (by omega) (by omega)]; omega)) rfl (tV (Val.conv Tryz.underlying34 Tryz.underlying5 rfl) rfl (tV (Val.indexArr k (by simp) Tryz.underlying156 Tryz.sizeOf5 rfl rfl (by omega) (by omega)) rfl (At.store (i := 0) (v := bv (UInt8.ofNat (x.toNat / 256 ^ k))) Tryz.sizeOf5 rfl (congrArg (fun z => some (Value.int IntKind.u8 z)) (by rw [show IntKind.i64.wrap (8 * (k : Int)) = ((8 * k : Nat) : Int) from by rw [wrap_i64 (by omega) (by omega)]; omega, Int.toNat_natCast, show IntKind.u64.bits = 64 from rfl, shr64 x (8 * k) (by omega), wrap_u8_nat, bit_shift_div, pow_256])) rfl rfl (by rw [fill_len (by simp [le_length, zs_length]), le_length]; exact hk) ?_)))
  simp only [sc0, scS]
  rw [fill_step hc (by simp [le_length, zs_length])]
  refine At.nil (At.blkN (At.thenN (At.region (tV (Val.bin rfl rfl rfl) rfl (tM rfl rfl (tE ?_))))))
  exact At.again (k + 1) (by omega) (by omega) (Sub.cons rfl (Sub.cons rfl (Sub.cons rfl (Sub.cons (congrArg (fun z => some (Value.int IntKind.i64 z)) (wrap_i64 (by omega) (by omega))) Sub.nil)))) (List.Perm.refl _)
 ·have hk : k = 8 := by have := h3; simp at this; omega
  refine At.exitC (At.thenX (At.thenX (At.blkX (At.thenN (tR (tV (Val.loadAll (i := 0) Tryz.isAgg156 Tryz.sizeOf156 rfl rfl (by rw [fill_len (by simp [le_length, zs_length]), le_length])) rfl (At.storeAll (i := 1) Tryz.sizeOf156 rfl rfl (by rw [fill_len (by simp [le_length, zs_length]), le_length]) (by simp [Value.oneCell']) rfl (by simp) ?_)))))))
  simp only [sc0, scS]
  refine tE (At.retC (At.ret1 (.inl rfl) rfl rfl (ResOf.all (i := 1) Tryz.isAgg156 Tryz.sizeOf156 rfl rfl (by rw [fill_len (by simp [le_length, zs_length]), le_length])) (fun w hw => ?_)))
  exact ⟨by rw [hk, fillTo_all (le_length 8 _) (zs_length 8)], hw.mod⟩
theorem check_p (a : Int) (v : BitVec 32) (w : World) (ht : Tab w) :
    PureC Tryz.prog 100 [.int .i64 a, b32 v] (b32 (checkW (BitVec.ofInt 64 a) v)) w := by
 refine enter0 Tryz.func100 rfl Tryz.ntmps100 rfl ?_
 simp only [envOf]
 refine tR (tA rfl rfl (At.nil (At.weaken [(0, .int .i64 a), (1, b32 v), (4, .int .u32 0)] (Sub.cons rfl (Sub.cons rfl (Sub.cons rfl Sub.nil))) (At.thenN (tR (tM rfl rfl (tV (Val.conv Tryz.underlying3 Tryz.underlying34 rfl) rfl ?_)))))))
 rw [wrap_u64_int]
 refine At.callP (fun w hw => lay_p (BitVec.ofInt 64 a) w) Tryz.call106 rfl rfl (At.alloc zero_156 zc_156 rfl (fun b1 => (At.storeAll (i := 0) Tryz.sizeOf156 rfl rfl (by simp [le_length]) (by simp [Value.oneCell']) rfl (by simp) ?_)))
 simp only [sc0, scS]
 refine tE (tR (tM rfl rfl (tV (Val.conv Tryz.underlying41 Tryz.underlying34 rfl) rfl ?_)))
 rw [u64_of32]
 refine At.callP (fun w hw => lay_p _ w) Tryz.call106 rfl rfl (At.alloc zero_156 zc_156 rfl (fun b2 => (At.storeAll (i := 0) Tryz.sizeOf156 rfl rfl (by simp [le_length]) (by simp [Value.oneCell']) rfl (by simp) ?_)))
 simp only [sc0, scS]
 refine tE (At.seq (At.quiet rfl (by decide +kernel) (qV (Val.cutArr 0 8 0 8 8 Tryz.underlying156 Tryz.sizeOf5 rfl rfl rfl (by decide) (by decide) rfl rfl rfl) rfl (QAt.callP (fun w hw => sum_n _ (le 8 (BitVec.ofInt 64 a).toNat) 8 8 w (le_length ..) (hw.blk (i := 1) rfl).bytes' (ht.mod hw.mod) (by decide)) Tryz.call86 rfl rfl (qV (Val.cutArr 0 4 0 4 8 Tryz.underlying156 Tryz.sizeOf5 rfl rfl ⟨_, _, rfl, by decide, rfl⟩ (by decide) (by decide) rfl rfl rfl) rfl ?_)))))
 refine QAt.callP (fun w hw => sumOn_n _ _ (le 4 v.toNat) 4 8 w (le_length ..) (by have := ((hw.blk (i := 0) rfl).bytes').take 4; rw [le_take (by decide), BitVec.toNat_setWidth, Nat.mod_eq_of_lt (by have := v.isLt; omega)] at this; exact this) (ht.mod hw.mod) (by decide)) Tryz.call107 rfl rfl (qV (Val.assign rfl) rfl (QAt.fin (At.thenN (At.retC (At.ret1 (.inl rfl) rfl rfl rfl (fun w hw => ?_))))))
 exact ⟨by rw [sumOn_append]; rfl, hw.mod⟩
theorem seal_p (a : Int) (v : BitVec 32) (w : World) (ht : Tab w) :
    PureC Tryz.prog 69 [.int .i64 a, b32 v] (b64 (sealW (BitVec.ofInt 64 a) v)) w := by
 refine enter0 Tryz.func69 rfl Tryz.ntmps69 rfl ?_
 simp only [envOf]
 refine tR (tA rfl rfl (tE (At.seq (tR (tM rfl rfl (tV (Val.bin rfl rfl rfl) rfl (tE ?_)))))))
 refine At.cond rfl (fun h1 => ?_) (fun h1 => ?_)
 ·refine tR (tA rfl rfl (tE (At.retC (At.thenR (At.ret1 (.inl rfl) rfl rfl rfl (fun w hw => ?_))))))
  exact ⟨by rw [seal_zero (by have := h1; simp at this; exact BitVec.eq_of_toNat_eq (by simpa using this))]; rfl, hw.mod⟩
 ·refine At.skipC (At.thenN (tR (tM rfl rfl (tM rfl rfl (At.callP (fun w hw => check_p _ _ w (ht.mod hw.mod)) Tryz.call100 rfl rfl (tV (Val.conv Tryz.underlying41 Tryz.underlying34 rfl) rfl ?_))))))
  rw [u64_of32]
  refine tV (Val.shl rfl rfl (by decide)) rfl ?_
  rw [show IntKind.u64.wrap ((((checkW (BitVec.ofInt 64 a) v).setWidth 64).toNat : Int) * 2 ^ min (32 : Int).toNat IntKind.u64.bits) = ((((checkW (BitVec.ofInt 64 a) v).setWidth 64) <<< 32).toNat : Int) from shl64 _ 32 (by decide)]
  refine tM rfl rfl (tV (Val.conv Tryz.underlying41 Tryz.underlying34 rfl) rfl ?_)
  rw [u64_of32]
  refine tV (Val.bin rfl rfl rfl) rfl ?_
  rw [or64]
  refine tA rfl rfl (tE (At.retC (At.ret1 (.inl rfl) rfl rfl rfl (fun w hw => ?_))))
  exact ⟨by rw [seal_some (by intro e; subst e; simp at h1)], hw.mod⟩
theorem unseal_p (a : Int) (x : BitVec 64) (w : World) (ht : Tab w) :
    PureC Tryz.prog 102 [.int .i64 a, b64 x] (unsealV (BitVec.ofInt 64 a) x) w := by
 refine enter0 Tryz.func102 rfl Tryz.ntmps102 rfl ?_
 simp only [envOf]
 refine tR (tA rfl rfl (tA rfl rfl (tE (tR (tM rfl rfl (tV (Val.conv Tryz.underlying34 Tryz.underlying41 rfl) rfl ?_))))))
 rw [conv_u32_64]
 refine tA rfl rfl (tE (At.seq (tR (tM rfl rfl (tM rfl rfl (At.callP (fun w hw => seal_p _ _ w (ht.mod hw.mod)) Tryz.call69 rfl rfl (tM rfl rfl (tV (Val.bin rfl rfl rfl) rfl (tE ?_)))))))))
 refine At.cond rfl (fun h1 => ?_) (fun h1 => ?_)
 ·refine tR (tA rfl rfl (tA rfl rfl (tE (At.retC (At.thenR (At.ret2 (.inl rfl) rfl rfl rfl rfl (fun w hw => ?_)))))))
  exact ⟨by rw [unseal_no (bv_ne64 h1)], hw.mod⟩
 ·refine At.skipC (At.thenN (tR (tM rfl rfl (tA rfl rfl (tA rfl rfl (tE (At.retC (At.ret2 (.inl rfl) rfl rfl rfl rfl (fun w hw => ?_)))))))))
  exact ⟨by rw [unseal_yes (bv_eq64 h1)], hw.mod⟩
theorem close_p (l : List UInt8) (w : World) (hl : l.length = 64) (ht : Tab w) :
    PureC Tryz.prog 55 [.agg (l.map bv).toArray] (.agg ((closeL l).map bv).toArray) w := by
 refine enter0 Tryz.func55 rfl Tryz.ntmps55 rfl ?_
 simp only [envOf]
 refine tR (At.box rfl rfl rfl (fun b1 => (At.alloc zero_39 zc_39 rfl (fun b2 => (tE (tR (tV (Val.cutArr 0 60 0 60 64 Tryz.underlying39 Tryz.sizeOf5 rfl rfl ⟨_, _, rfl, by decide, rfl⟩ (by decide) (by decide) rfl rfl rfl) rfl (At.callP (fun w hw => sum_n _ (l.take 60) 60 64 w (by simp [hl]) ((hw.blk (i := 1) rfl).bytes'.take 60) (ht.mod hw.mod) (by decide)) Tryz.call86 rfl rfl (tA rfl rfl (tE (At.seq (tR (tM rfl rfl (tE (At.block ?_)))))))))))))))
 skip
 refine At.loop (σ := Nat) (fun k => k ≤ 4) (fun k => [(1, .pointer (some ⟨b1, 0, none⟩)), (2, .pointer (some ⟨b2, 0, none⟩)), (3, b32 (sumOn 0 (l.take 60))), (7, .int .i64 k)]) (fun k => [blk b2 39 (List.replicate 64 (Value.int .u8 0)), blk b1 39 ((fillTo (closeL l) l (60 + k)).map bv)]) (fun k => 4 - k) 0 (by omega) (Sub.cons rfl (Sub.cons rfl (Sub.cons rfl (Sub.cons rfl Sub.nil)))) (by rw [show 60 + 0 = 60 from rfl, closeL_fill hl]) ?_
 intro k hs
 refine tR (tV (Val.bin rfl rfl rfl) rfl (tE (At.seq ?_)))
 refine At.cond rfl (fun h3 => ?_) (fun h3 => ?_)
 ·have hk : k < 4 := by have := h3; simp at this; omega
  have hc := closeL_get (k := k) hl hk
  refine At.skipC (At.thenN (At.seq (At.block (tR (tM rfl rfl (tA rfl rfl (tE (At.region (tM rfl rfl (tV (Val.bin rfl rfl rfl) rfl ?_))))))))))
  rw [wrap_i64 (n := 60 + (k : Int)) (by omega) (by omega)]
  refine tM rfl rfl (tM rfl rfl (tV (Val.bin rfl rfl rfl) rfl ?_))
  rw [wrap_i64 (n := 8 * (k : Int)) (by omega) (by omega)]
  refine tV (Val.shr rfl rfl (by omega)) rfl (tV (Val.conv Tryz.underlying41 Tryz.underlying5 rfl) rfl (tV (Val.indexArr (60 + k) (by omega) Tryz.underlying39 Tryz.sizeOf5 rfl rfl (by omega) (by omega)) rfl (At.store (i := 1) (v := bv (UInt8.ofNat ((sumOn 0 (l.take 60)).toNat / 256 ^ k))) Tryz.sizeOf5 rfl (congrArg (fun z => some (Value.int IntKind.u8 z)) (by rw [show (8 * (k : Int)).toNat = 8 * k by omega, show IntKind.u32.bits = 32 from rfl, shr32 _ (8 * k) (by omega), wrap_u8_nat, shr32_div, pow_256])) rfl rfl (by rw [fill_len (by rw [closeL_length hl, hl]), closeL_length hl]; omega) ?_)))
  simp only [sc0, scS]
  rw [fill_step hc (by rw [closeL_length hl, hl])]
  refine At.nil (At.blkN (At.thenN (At.region (tV (Val.bin rfl rfl rfl) rfl (tM rfl rfl (tE ?_))))))
  exact At.again (k + 1) (by omega) (by omega) (Sub.cons rfl (Sub.cons rfl (Sub.cons rfl (Sub.cons (congrArg (fun z => some (Value.int IntKind.i64 z)) (wrap_i64 (by omega) (by omega))) Sub.nil)))) (List.Perm.refl _)
 ·have hk : k = 4 := by have := h3; simp at this; omega
  refine At.exitC (At.thenX (At.thenX (At.blkX (At.thenN (tR (tV (Val.loadAll (i := 1) Tryz.isAgg39 Tryz.sizeOf39 rfl rfl (by rw [fill_len (by rw [closeL_length hl, hl]), closeL_length hl])) rfl (At.storeAll (i := 0) Tryz.sizeOf39 rfl rfl (by rw [fill_len (by rw [closeL_length hl, hl]), closeL_length hl]) (by simp [Value.oneCell']) rfl (by simp) ?_)))))))
  simp only [sc0, scS]
  refine tE (At.retC (At.ret1 (.inl rfl) rfl rfl (ResOf.all (i := 0) Tryz.isAgg39 Tryz.sizeOf39 rfl rfl (by rw [fill_len (by rw [closeL_length hl, hl]), closeL_length hl])) (fun w hw => ?_)))
  exact ⟨by rw [hk, fill_done hl], hw.mod⟩
theorem whole_p (l : List UInt8) (w : World) (hl : l.length = 64) (ht : Tab w) :
    PureC Tryz.prog 63 [.agg (l.map bv).toArray] (.bool (wholeB l)) w := by
 refine enter0 Tryz.func63 rfl Tryz.ntmps63 rfl ?_
 simp only [envOf]
 refine tR (At.box rfl rfl rfl (fun b1 => (tA rfl rfl (tE (At.seq (At.quiet rfl (by decide +kernel) ?_))))))
 refine qV (Val.loadAll (i := 0) Tryz.isAgg39 Tryz.sizeOf39 rfl rfl (by rw [List.length_map]; exact hl)) rfl (QAt.callP (fun w hw => close_p _ w hl (ht.mod hw.mod)) Tryz.call55 rfl rfl ?_)
 refine qV (Val.loadAll (i := 0) Tryz.isAgg39 Tryz.sizeOf39 rfl rfl (by rw [List.length_map]; exact hl)) rfl (qV (Val.eqAgg Tryz.eqGuardType39 (fun w => run_equal_bytes Tryz.underlying39 Tryz.underlying5 Tryz.isAgg5 Tryz.sizeOf5 _ _ (closeL_length hl) hl w) rfl rfl) rfl (qV (Val.assign rfl) rfl (QAt.fin (At.thenN (At.retC (At.ret1 (.inl rfl) rfl rfl rfl (fun w hw => ?_)))))))
 exact ⟨rfl, hw.mod⟩
end Go.Proofs.YthdmlpjhcalliaaGreatDoor
