/- What a slice of bytes is that is handed in. -/
import Derived.Test.YtgighokkflchmaaLc
import Derived.Test.YtgighokkflchmaaWb
import Derived.ChangeSlices
import Derived.Test.YtgighokkflchmaaWa
import Derived.Laws.MakeOwn
import Derived.Laws.OwnMore
import Derived.OrdersHeld
set_option linter.unusedVariables false
set_option linter.unusedSimpArgs false
namespace Go.Wk
open Go Go.ChangeShapes Go.WideShapes Go.ChangeAt Go.RowKit
section
variable {H : Type} {enc : TypeId × Value → H} {P : Program} {W : World} {r : Reach} {base b0 : Nat} {sp : Nat → Bool} {held : Bool}
theorem arg_slice {t e : TypeId} {v : Value} (hu : P.underlying t = some (.slice e)) (h : Value.okWide P W r base t v) : v = .slice none 0 0 ∨ ∃ b o n c, v = .slice (some ⟨b, o, none⟩) n c ∧ n ≤ c := by
  unfold Value.okWide at h
  rw [hu] at h
  unfold Cell.okWide at h
  rw [hu] at h
  unfold Cell.ok at h
  rw [hu] at h
  cases v <;> simp at h
  rename_i A n c
  cases A with
  | none =>
    left
    cases n <;> cases c <;> simp at h ⊢
  | some a =>
    right
    obtain ⟨h1, _, h2⟩ := h
    obtain ⟨b, o, s⟩ := a
    have : s = none := h2.2.1
    subst this
    exact ⟨b, o, n, c, rfl, h1⟩
theorem arg_byteslice {t e : TypeId} {v : Value} {d : DataW H} {ps : List MemPlace} (hu : P.underlying t = some (.slice e)) (he : P.underlying e = some (.int .u8)) (hc : P.cellsOf e = 1) (hby : P.bytesOf e = 1)
    (h : Value.okWide P W r base t v) (hd : DataW.Trod enc P W b0 sp held t v d ps) (hw : (DataW.weights P t d).all (· ≤ reachBytes) = true) :
    ∃ A c l, v = .slice A (l : List UInt8).length c ∧ Bytes W A l ∧ l.length ≤ c ∧ l.length ≤ 140737488351232 ∧ (A = none → l.length = 0 ∧ c = 0) ∧ (∀ a, A = some a → a.spot = none) := by
  obtain ⟨fuel, hf⟩ := hd
  rcases arg_slice hu h with rfl | ⟨b, o, n, c, rfl, hnc⟩
  · exact ⟨none, 0, [], rfl, Bytes.nil _ _, Nat.le_refl _, by decide, (fun _ => ⟨rfl, rfl⟩), (fun a ha => by cases ha)⟩
  · rcases open_ints hu he hc hf with ⟨h0, _⟩ | ⟨a, len, cap, zs, h0, _, hl, _, hz, hx, hcell, hwf⟩
    · simp [Value.cells] at h0
    · simp only [Value.cells, List.cons.injEq, Value.slice.injEq, Option.some.injEq, and_true] at h0
      obtain ⟨rfl, rfl, rfl⟩ := h0
      have hlen : n ≤ zs.length := by rw [hz]; split <;> omega
      simp only [Prod.mk.injEq] at hx
      have hdw : (zs.length) * 1 ≤ reachBytes := by
        have hall := List.all_eq_true.1 hw
        rw [hx.1] at hall
        unfold DataW.weights at hall
        rw [hu] at hall
        have := hall _ (List.mem_cons_self ..)
        simp only [decide_eq_true_eq, hby, lits, List.length_map] at this
        rw [← List.length_append, List.take_append_drop] at this
        exact this
      have hb : ∀ x ∈ zs, ∃ q : UInt8, x = (q.toNat : Int) := fun x hx => by
        have := hwf x hx
        exact hasU8 (by simpa [Lit.wf, IntKind.has] using this)
      refine ⟨some ⟨b, o, none⟩, c, (zs.take n).map (fun z => UInt8.ofNat z.toNat), ?_, ?_, ?_, ?_, (fun h => by cases h), (fun a ha => by cases ha; rfl)⟩
      · rw [List.length_map, List.length_take, Nat.min_eq_left hlen]
      · intro k u hk
        have hk' : k < n := by have := (List.getElem?_eq_some_iff.1 hk).1; simp at this; omega
        refine ⟨b, o, rfl, ?_⟩
        have h1 := hcell k (by omega)
        rw [Addr.add_off] at h1
        rw [h1]
        have hkz : k < zs.length := by omega
        rw [List.getElem?_map, List.getElem?_take, if_pos hk', List.getElem?_eq_getElem hkz] at hk
        have hu' : UInt8.ofNat zs[k].toNat = u := by simpa using hk
        have hg : zs.getD k 0 = zs[k] := by simp [List.getD, hkz]
        obtain ⟨q, hq⟩ := hb zs[k] (List.getElem_mem hkz)
        rw [hg, ← hu', hq]
        simp
      · rw [List.length_map, List.length_take]; omega
      · rw [List.length_map, List.length_take]; unfold reachBytes at hdw; omega
end
end Go.Wk

set_option linter.unusedVariables false
set_option linter.unusedSimpArgs false
namespace Go.Wk
open Go
def okc (c : UInt8) : Bool := !(c == 0) && !(c == 47)
def validB (s : ByteArray) : Bool := !(s.data.toList.isEmpty) && decide (s.size ≤ 28) && !(s.data.toList == [46]) && !(s.data.toList == [46, 46]) && s.data.toList.all okc
theorem size_len (s : ByteArray) : s.data.toList.length = s.size := Array.length_toList
theorem valid_empty {s : ByteArray} (h : ((s.size : Int) == 0) = true) : validB s = false := by
  have h0 : s.size = 0 := by simpa using h
  have : s.data.toList = [] := List.eq_nil_of_length_eq_zero (by rw [size_len]; exact h0)
  simp [validB, this]
theorem valid_emptyL {s : ByteArray} (h : (s.toList == (ByteArray.mk #[]).toList) = true) : validB s = false := by
  rw [ByteArray.toList_eq, ByteArray.toList_eq] at h
  simp at h
  simp [validB, h]
theorem valid_long {s : ByteArray} (h : decide ((s.size : Int) > 28) = true) : validB s = false := by
  have h0 : ¬ s.size ≤ 28 := by simp at h; omega
  simp [validB, h0]
theorem valid_dot {s : ByteArray} (h : (s.toList == (ByteArray.mk #[46]).toList) = true) : validB s = false := by
  rw [ByteArray.toList_eq, ByteArray.toList_eq] at h
  simp at h
  simp [validB, h]
theorem valid_dots {s : ByteArray} (h : (s.toList == (ByteArray.mk #[46, 46]).toList) = true) : validB s = false := by
  rw [ByteArray.toList_eq, ByteArray.toList_eq] at h
  simp at h
  simp [validB, h]
theorem valid_bad {s : ByteArray} {k : Nat} {c : UInt8} (h : s.data.toList[k]? = some c) (hc : okc c = false) : validB s = false := by
  have : s.data.toList.all okc = false := by
    rw [List.all_eq_false]
    exact ⟨c, List.mem_of_getElem? h, by simp [hc]⟩
  simp [validB, this]
theorem valid_all {s : ByteArray} (h1 : ((s.size : Int) == 0) = false) (h2 : decide ((s.size : Int) > 28) = false) (h3 : (s.toList == (ByteArray.mk #[46]).toList) = false) (h4 : (s.toList == (ByteArray.mk #[46, 46]).toList) = false)
    (h5 : s.data.toList.all okc = true) : validB s = true := by
  rw [ByteArray.toList_eq, ByteArray.toList_eq] at h3 h4
  have e1 : s.data.toList.isEmpty = false := by
    rw [Bool.eq_false_iff]
    intro h
    have : s.data.toList = [] := by simpa using h
    have := congrArg List.length this
    rw [size_len] at this
    simp at this
    simp [this] at h1
  have e2 : s.size ≤ 28 := by simp at h2; omega
  have e3 : (s.data.toList == [46]) = false := h3
  have e4 : (s.data.toList == [46, 46]) = false := h4
  simp only [validB, e1, e2, e3, e4, h5]; rfl
theorem notEmpty_of {s : ByteArray} (h : (s.toList == (ByteArray.mk #[]).toList) = false) : ((s.size : Int) == 0) = false := by
  rw [Bool.eq_false_iff] at h ⊢
  intro h0
  apply h
  have h0 : s.size = 0 := by simpa using h0
  have : s.data.toList = [] := List.eq_nil_of_length_eq_zero (by rw [size_len]; exact h0)
  rw [ByteArray.toList_eq, ByteArray.toList_eq, this]; rfl
theorem u8eq (c d : UInt8) : ((c.toNat : Int) == (d.toNat : Int)) = (c == d) := by
  rw [Bool.eq_iff_iff]
  simp only [beq_iff_eq]
  constructor
  · intro h; exact UInt8.toNat_inj.1 (by omega)
  · intro h; rw [h]
theorem okc_0 {c : UInt8} (h : ((c.toNat : Int) == 0) = true) : okc c = false := by
  have := u8eq c 0
  simp only [okc, ← this]
  rw [show (((0 : UInt8).toNat : Nat) : Int) = 0 from rfl, h]; rfl
theorem okc_47 {c : UInt8} (h : ((c.toNat : Int) == 47) = true) : okc c = false := by
  have := u8eq c 47
  simp only [okc, ← this]
  rw [show (((47 : UInt8).toNat : Nat) : Int) = 47 from rfl, h]; simp
theorem okc_yes {c : UInt8} (h : ((c.toNat : Int) == 0) = false) (h' : ((c.toNat : Int) == 47) = false) : okc c = true := by
  have e0 := u8eq c 0
  have e1 := u8eq c 47
  rw [show (((0 : UInt8).toNat : Nat) : Int) = 0 from rfl, h] at e0
  rw [show (((47 : UInt8).toNat : Nat) : Int) = 47 from rfl, h'] at e1
  simp only [okc, ← e0, ← e1]; rfl
theorem all_take_succ {l : List UInt8} {k : Nat} {c : UInt8} (h : l[k]? = some c) (ha : (l.take k).all okc = true) (hc : okc c = true) : (l.take (k + 1)).all okc = true := by
  obtain ⟨hk, rfl⟩ := List.getElem?_eq_some_iff.1 h
  rw [List.take_succ_eq_append_getElem hk, List.all_append, ha]
  simp [hc]
end Go.Wk

set_option linter.unusedVariables false
set_option linter.unusedSimpArgs false
namespace Go.Wk
open Go
section
variable {P : Program} {Γ : Ctx} {E : Env} {H : List Res} {ops : Array Oper} {Q : Exit → Act → World → Prop} {rest : List Oper}
  {d : Nat} {dst : Option Tmp} {g : Option (Nat × Bool)} {ty : TypeId} {pos : String} {after : Array Edge} {x y z : Operand} {v u : Value} {ψ : Act → Prop}
theorem Val.addI {t t' : TypeId} {a b : Int} (hx : ev E x = some (.int .i64 a)) (hy : ev E y = some (.int .i64 b)) (h0 : -9223372036854775808 ≤ a + b) (h1 : a + b ≤ 9223372036854775807) :
    Val P Γ E H ⟨dst, .binOp .add t x y t', ty, pos, after, g⟩ (.int .i64 (a + b)) := by
  have := Val.bin (P := P) (Γ := Γ) (H := H) (dst := dst) (g := g) (ty := ty) (pos := pos) (after := after) (t := t) (t' := t') (op := .add) hx hy rfl
  rwa [wrap_i64 h0 h1] at this
theorem Val.subI {t t' : TypeId} {a b : Int} (hx : ev E x = some (.int .i64 a)) (hy : ev E y = some (.int .i64 b)) (h0 : -9223372036854775808 ≤ a - b) (h1 : a - b ≤ 9223372036854775807) :
    Val P Γ E H ⟨dst, .binOp .sub t x y t', ty, pos, after, g⟩ (.int .i64 (a - b)) := by
  have := Val.bin (P := P) (Γ := Γ) (H := H) (dst := dst) (g := g) (ty := ty) (pos := pos) (after := after) (t := t) (t' := t') (op := .sub) hx hy rfl
  rwa [wrap_i64 h0 h1] at this
theorem Val.mulI {t t' : TypeId} {a b : Int} (hx : ev E x = some (.int .i64 a)) (hy : ev E y = some (.int .i64 b)) (h0 : -9223372036854775808 ≤ a * b) (h1 : a * b ≤ 9223372036854775807) :
    Val P Γ E H ⟨dst, .binOp .mul t x y t', ty, pos, after, g⟩ (.int .i64 (a * b)) := by
  have := Val.bin (P := P) (Γ := Γ) (H := H) (dst := dst) (g := g) (ty := ty) (pos := pos) (after := after) (t := t) (t' := t') (op := .mul) hx hy rfl
  rwa [wrap_i64 h0 h1] at this
theorem Val.quoI {t t' : TypeId} {a b : Int} (hx : ev E x = some (.int .i64 a)) (hy : ev E y = some (.int .i64 b)) (ha : 0 ≤ a) (ha' : a ≤ 9223372036854775807) (hb : 0 < b) :
    Val P Γ E H ⟨dst, .binOp .quo t x y t', ty, pos, after, g⟩ (.int .i64 (a / b)) := by
  have := Val.quo (P := P) (Γ := Γ) (H := H) (dst := dst) (g := g) (ty := ty) (pos := pos) (after := after) (t := t) (t' := t') hx hy (by omega)
  have h1 : 0 ≤ a / b := Int.ediv_nonneg ha (by omega)
  have h2 : a / b ≤ a := Int.ediv_le_self b ha
  rwa [Int.tdiv_eq_ediv_of_nonneg ha, wrap_i64 (by omega) (by omega)] at this
theorem Val.remI {t t' : TypeId} {k : IntKind} {a b : Int} (hx : ev E x = some (.int k a)) (hy : ev E y = some (.int k b)) (ha : 0 ≤ a) (hb : 0 < b) :
    Val P Γ E H ⟨dst, .binOp .rem t x y t', ty, pos, after, g⟩ (.int k (a % b)) := by
  have := Val.rem (P := P) (Γ := Γ) (H := H) (dst := dst) (g := g) (ty := ty) (pos := pos) (after := after) (t := t) (t' := t') hx hy (by omega)
  rwa [Int.tmod_eq_emod_of_nonneg ha] at this
theorem Val.toI {s t : TypeId} {ds : TypeDesc} {k' : IntKind} {b : Int} (hs : P.underlying s = some ds) (ht : P.underlying t = some (.int .i64)) (hx : ev E x = some (.int k' b)) (h0 : -9223372036854775808 ≤ b) (h1 : b ≤ 9223372036854775807) :
    Val P Γ E H ⟨dst, .convert s t x, ty, pos, after, g⟩ (.int .i64 b) := by
  have := Val.conv (P := P) (Γ := Γ) (H := H) (dst := dst) (g := g) (ty := ty) (pos := pos) (after := after) hs ht hx
  rwa [wrap_i64 h0 h1] at this
theorem Val.toU {s t : TypeId} {ds : TypeDesc} {k' : IntKind} {b : Int} (hs : P.underlying s = some ds) (ht : P.underlying t = some (.int .u64)) (hx : ev E x = some (.int k' b)) (h0 : 0 ≤ b) (h1 : b < 18446744073709551616) :
    Val P Γ E H ⟨dst, .convert s t x, ty, pos, after, g⟩ (.int .u64 b) := by
  have := Val.conv (P := P) (Γ := Γ) (H := H) (dst := dst) (g := g) (ty := ty) (pos := pos) (after := after) hs ht hx
  rwa [wrap_u64 h0 h1] at this
theorem Val.toW {s t : TypeId} {ds : TypeDesc} {k' : IntKind} {b : Int} (hs : P.underlying s = some ds) (ht : P.underlying t = some (.int .u32)) (hx : ev E x = some (.int k' b)) (h0 : 0 ≤ b) (h1 : b < 4294967296) :
    Val P Γ E H ⟨dst, .convert s t x, ty, pos, after, g⟩ (.int .u32 b) := by
  have := Val.conv (P := P) (Γ := Γ) (H := H) (dst := dst) (g := g) (ty := ty) (pos := pos) (after := after) hs ht hx
  rwa [wrap_u32 h0 h1] at this

/-! ### lists that are read -/
/-- A slice that is read: n elements of sz cells each. -/
def Rd (w : World) (v : Value) (sz n : Nat) (xs : List Value) : Prop :=
  ∃ A c, v = .slice A n c ∧ Cells w A xs ∧ xs.length = n * sz ∧ n ≤ c ∧ (A = none → n = 0 ∧ c = 0) ∧ (0 < c → ∀ a, A = some a → a.spot = none)
abbrev RdB (w : World) (v : Value) (l : List UInt8) : Prop := Rd w v 1 l.length (l.map bv)
theorem Rd.mod {w w' : World} {sz n : Nat} {xs : List Value} (h : Rd w v sz n xs) (hm : Mod (fun _ => False) w w') : Rd w' v sz n xs := by
  obtain ⟨A, c, h1, h2, h3⟩ := h
  exact ⟨A, c, h1, h2.mod hm, h3⟩
/-- The list stands in none of these blocks. -/
def Off (v : Value) (xs : List Value) (S : Nat → Prop) : Prop := xs ≠ [] → ∀ b o s n c, v = .slice (some ⟨b, o, s⟩) n c → ¬ S b
theorem Off.none (v : Value) (xs : List Value) : Off v xs (fun _ => False) := fun _ _ _ _ _ _ _ h => h
theorem Rd.keep {w0 : World} {S : Nat → Prop} {w : World} {sz n : Nat} {xs : List Value} (h : Rd w0 v sz n xs) (hw : Rep w0 S H w) (ho : Off v xs S) : Rd w v sz n xs := by
  obtain ⟨A, c, h1, h2, h3⟩ := h
  refine ⟨A, c, h1, fun j u hj => ?_, h3⟩
  obtain ⟨b, o, e, hc⟩ := h2 j u hj
  exact ⟨b, o, e, hw.oldCell hc (ho (fun h0 => by rw [h0] at hj; cases hj) b o _ n c (by rw [h1, e]))⟩
theorem Rd.nil (w : World) (sz : Nat) : Rd w (.slice none 0 0) sz 0 [] := ⟨none, 0, rfl, (fun j u h => by cases h), by simp, Nat.le_refl _, (fun _ => ⟨rfl, rfl⟩), (fun _ a h => by cases h)⟩
theorem row_rd {w : World} {e sz n : Nat} {xs : List Value} (h : w.ownsRow 0 e sz v n xs) (hsz : 0 < sz) : Rd w v sz n xs := by
  have hl : xs.length = n * sz := h.1
  rcases h.2 with ⟨rfl, rfl⟩ | ⟨b, cap, cur, rfl, h1⟩
  · have : xs = [] := List.eq_nil_of_length_eq_zero (by simpa using hl)
    subst this
    exact Rd.nil w sz
  · exact ⟨_, cap, rfl, row_cells h hsz, hl, by have := h1; omega, (fun h => by cases h), (fun _ a h => by cases h; rfl)⟩
theorem Rd.bytes {w : World} {l : List UInt8} (h : RdB w v l) : ∃ A c, v = .slice A l.length c ∧ Bytes w A l ∧ l.length ≤ c ∧ (A = none → l.length = 0 ∧ c = 0) ∧ (0 < c → ∀ a, A = some a → a.spot = none) := by
  obtain ⟨A, c, h1, h2, h3, h4⟩ := h
  refine ⟨A, c, h1, fun k q hk => ?_, h4⟩
  exact h2 k (bv q) (by rw [List.getElem?_map, hk]; rfl)
theorem Bytes.rd {w : World} {A : Option Addr} {l : List UInt8} {c : Nat} (h : Bytes w A l) (h1 : l.length ≤ c) (h2 : A = none → l.length = 0 ∧ c = 0) (h3 : ∀ a, A = some a → a.spot = none) : RdB w (.slice A l.length c) l :=
  ⟨A, c, rfl, h.cells, by simp, h1, h2, fun _ => h3⟩
theorem Val.lenRd {t el sz n : Nat} {w : World} {xs : List Value} (h : Rd w v sz n xs) (hu : P.underlying t = some (.slice el)) (hx : ev E x = some v) :
    Val P Γ E H ⟨dst, .call { callee := .builtin .len, args := #[x], argTypes := #[t] }, ty, pos, after, g⟩ (.int .i64 n) := by
  obtain ⟨A, c, rfl, _⟩ := h
  exact Val.len (bt := #[]) hu hx
theorem Rd.at {w : World} {sz n : Nat} {xs : List Value} {j : Nat} (h : Rd w v sz n xs) (hj : j < n) :
    ∃ b o c, v = .slice (some ⟨b, o, none⟩) n c ∧ ∀ i q, xs[j * sz + i]? = some q → w.cell? ⟨b, o + j * sz + i, none⟩ = some q := by
  obtain ⟨A, c, rfl, h2, h3, h4, h5, h6⟩ := h
  cases A with
  | none => have := (h5 rfl).1; omega
  | some a =>
    obtain ⟨b, o, s⟩ := a
    have : s = none := h6 (by omega) _ rfl
    subst this
    refine ⟨b, o, c, rfl, fun i q hq => ?_⟩
    obtain ⟨b', o', e, hc⟩ := h2 _ _ hq
    simp only [Option.some.injEq, Addr.mk.injEq] at e
    obtain ⟨rfl, rfl, _⟩ := e
    rw [Nat.add_assoc]; exact hc
/-- An element's place. -/
theorem At.idxRd {t el sz n : Nat} {xs : List Value} {k : IntKind} {j : Int} (h : Rd Γ.w0 v sz n xs) (hu : P.underlying t = some (.slice el)) (hs : ∀ w, (sizeOf el).run P w = .ok sz w) (hx : ev E x = some v) (hy : ev E y = some (.int k j)) (h0 : 0 ≤ j) (h1 : j < n)
    (hg : g = none) (hn : Nat.blt d Γ.n = true)
    (c : ∀ b o, (∀ i q, xs[j.toNat * sz + i]? = some q → Γ.w0.cell? ⟨b, o + i, none⟩ = some q) → At Γ ((d, .pointer (some ⟨b, o, none⟩)) :: E) H (wpList P ops Q rest)) :
    At Γ E H (wpList P ops Q ({ dst := some d, op := .indexAddr t x y, type := ty, pos, after, guard := g } :: rest)) := by
  obtain ⟨b, o, cap, rfl, hc⟩ := h.at (j := j.toNat) (by omega)
  exact At.val (Val.indexSl _ rfl hu hs hx hy h0 h1) hg rfl hn (c b _ hc)
theorem QAt.idxRd {t el sz n : Nat} {xs : List Value} {k : IntKind} {j : Int} (h : Rd Γ.w0 v sz n xs) (hu : P.underlying t = some (.slice el)) (hs : ∀ w, (sizeOf el).run P w = .ok sz w) (hx : ev E x = some v) (hy : ev E y = some (.int k j)) (h0 : 0 ≤ j) (h1 : j < n)
    (hg : g = none) (hn : Nat.blt d Γ.n = true)
    (c : ∀ b o, (∀ i q, xs[j.toNat * sz + i]? = some q → Γ.w0.cell? ⟨b, o + i, none⟩ = some q) → QAt P Γ ops ((d, .pointer (some ⟨b, o, none⟩)) :: E) H rest ψ) :
    QAt P Γ ops E H ({ dst := some d, op := .indexAddr t x y, type := ty, pos, after, guard := g } :: rest) ψ := by
  obtain ⟨b, o, cap, rfl, hc⟩ := h.at (j := j.toNat) (by omega)
  exact QAt.val (Val.indexSl _ rfl hu hs hx hy h0 h1) hg rfl hn (c b _ hc)
/-- A byte's place. -/
theorem At.idxB {t el : Nat} {l : List UInt8} {k : IntKind} {j : Int} (h : RdB Γ.w0 v l) (hu : P.underlying t = some (.slice el)) (hs : ∀ w, (sizeOf el).run P w = .ok 1 w) (hx : ev E x = some v) (hy : ev E y = some (.int k j)) (h0 : 0 ≤ j) (h1 : j < l.length)
    (hg : g = none) (hn : Nat.blt d Γ.n = true)
    (c : ∀ b o q, l[j.toNat]? = some q → q.toNat < 256 → Γ.w0.cell? ⟨b, o, none⟩ = some (bv q) → At Γ ((d, .pointer (some ⟨b, o, none⟩)) :: E) H (wpList P ops Q rest)) :
    At Γ E H (wpList P ops Q ({ dst := some d, op := .indexAddr t x y, type := ty, pos, after, guard := g } :: rest)) :=
  At.idxRd h hu hs hx hy h0 h1 hg hn fun b o hc => by
    have hq : l[j.toNat]? = some (l[j.toNat]'(by omega)) := List.getElem?_eq_getElem _
    exact c b o _ hq (UInt8.toNat_lt _) (hc 0 _ (by rw [Nat.mul_one, Nat.add_zero, List.getElem?_map, hq]; rfl))
theorem QAt.idxB {t el : Nat} {l : List UInt8} {k : IntKind} {j : Int} (h : RdB Γ.w0 v l) (hu : P.underlying t = some (.slice el)) (hs : ∀ w, (sizeOf el).run P w = .ok 1 w) (hx : ev E x = some v) (hy : ev E y = some (.int k j)) (h0 : 0 ≤ j) (h1 : j < l.length)
    (hg : g = none) (hn : Nat.blt d Γ.n = true)
    (c : ∀ b o q, l[j.toNat]? = some q → q.toNat < 256 → Γ.w0.cell? ⟨b, o, none⟩ = some (bv q) → QAt P Γ ops ((d, .pointer (some ⟨b, o, none⟩)) :: E) H rest ψ) :
    QAt P Γ ops E H ({ dst := some d, op := .indexAddr t x y, type := ty, pos, after, guard := g } :: rest) ψ :=
  QAt.idxRd h hu hs hx hy h0 h1 hg hn fun b o hc => by
    have hq : l[j.toNat]? = some (l[j.toNat]'(by omega)) := List.getElem?_eq_getElem _
    exact c b o _ hq (UInt8.toNat_lt _) (hc 0 _ (by rw [Nat.mul_one, Nat.add_zero, List.getElem?_map, hq]; rfl))
def cutA : Option Addr → Nat → Nat → Nat → Option Addr
  | some ⟨b, o, s⟩, c, l, sz => some ⟨b, if c = l then o else o + l * sz, s⟩
  | none, _, _, _ => none
/-- A byte's place in a row. -/
theorem At.idxRowB {i t el e : Nat} {l : List UInt8} {k : IntKind} {j : Int} (hi : H[i]? = some (rowR v e 1 l.length (l.map bv))) (hu : P.underlying t = some (.slice el)) (hs : ∀ w, (sizeOf el).run P w = .ok 1 w) (hx : ev E x = some v) (hy : ev E y = some (.int k j)) (h0 : 0 ≤ j) (h1 : j < l.length)
    (hg : g = none) (hn : Nat.blt d Γ.n = true)
    (c : ∀ q, l[j.toNat]? = some q → q.toNat < 256 → At Γ ((d, .pointer (some ⟨rowB v, j.toNat, none⟩)) :: E) H (wpList P ops Q rest)) :
    At Γ E H (wpList P ops Q ({ dst := some d, op := .indexAddr t x y, type := ty, pos, after, guard := g } :: rest)) :=
  At.val (Val.indexRow (i := i) _ (by omega) hu hs hx hy hi h0 h1) hg rfl hn (c _ (List.getElem?_eq_getElem (by omega)) (UInt8.toNat_lt _))
theorem QAt.idxRowB {i t el e : Nat} {l : List UInt8} {k : IntKind} {j : Int} (hi : H[i]? = some (rowR v e 1 l.length (l.map bv))) (hu : P.underlying t = some (.slice el)) (hs : ∀ w, (sizeOf el).run P w = .ok 1 w) (hx : ev E x = some v) (hy : ev E y = some (.int k j)) (h0 : 0 ≤ j) (h1 : j < l.length)
    (hg : g = none) (hn : Nat.blt d Γ.n = true)
    (c : ∀ q, l[j.toNat]? = some q → q.toNat < 256 → QAt P Γ ops ((d, .pointer (some ⟨rowB v, j.toNat, none⟩)) :: E) H rest ψ) :
    QAt P Γ ops E H ({ dst := some d, op := .indexAddr t x y, type := ty, pos, after, guard := g } :: rest) ψ :=
  QAt.val (Val.indexRow (i := i) _ (by omega) hu hs hx hy hi h0 h1) hg rfl hn (c _ (List.getElem?_eq_getElem (by omega)) (UInt8.toNat_lt _))
theorem Val.loadRowB {i t e q : Nat} {l : List UInt8} {c : UInt8} (hA : ∀ w, (isAgg t).run P w = .ok false w) (hx : ev E x = some (.pointer (some ⟨rowB v, q, none⟩))) (hi : H[i]? = some (rowR v e 1 l.length (l.map bv))) (hv : l[q]? = some c) :
    Val P Γ E H ⟨dst, .load t x, ty, pos, after, g⟩ (bv c) := Val.loadRow hA hx hi (by rw [List.getElem?_map, hv]; rfl)
theorem brow_set (e : Nat) (v : Value) (l : List UInt8) (j : Nat) (c : UInt8) : rowR v e 1 l.length ((l.map bv).set j (bv c)) = brow e v (l.set j c) := by simp [brow, List.map_set]
/-- A part of a list. -/
theorem Rd.cut {w : World} {sz n l h : Nat} {A : Option Addr} {c : Nat} {xs : List Value} (hr : Rd w (.slice A n c) sz n xs) (h1 : l ≤ h) (h2 : h ≤ n) :
    Rd w (.slice (cutA A c l sz) (h - l) (c - l)) sz (h - l) ((xs.drop (l * sz)).take ((h - l) * sz)) := by
  obtain ⟨A', c', e, g2, g3, g4, g5, g6⟩ := hr
  simp only [Value.slice.injEq, true_and] at e
  obtain ⟨rfl, rfl⟩ := e
  have hle : h * sz ≤ n * sz := Nat.mul_le_mul_right _ h2
  have hs : (h - l) * sz = h * sz - l * sz := Nat.sub_mul ..
  have hl' : l * sz ≤ h * sz := Nat.mul_le_mul_right _ h1
  refine ⟨_, _, rfl, fun j u hj => ?_, by rw [List.length_take, List.length_drop, g3]; omega, by omega, fun h0 => ?_, fun hc0 a ha => ?_⟩
  · rw [List.getElem?_take] at hj
    split at hj
    · rename_i hlt
      rw [List.getElem?_drop] at hj
      obtain ⟨b, o, rfl, hc⟩ := g2 _ _ hj
      refine ⟨b, _, rfl, ?_⟩
      by_cases hcl : c = l
      · exfalso
        have : h - l = 0 := by omega
        rw [this] at hlt; simp at hlt
      · rw [if_neg hcl, Nat.add_assoc]; exact hc
    · cases hj
  · cases A with
    | none => have := g5 rfl; omega
    | some a => cases h0
  · cases A with
    | none => cases ha
    | some a' =>
      obtain ⟨b, o, s⟩ := a'
      have := g6 (by omega) _ rfl
      have ha' := Option.some.inj ha
      subst ha'; exact this
theorem RdB.cut {w : World} {l h : Nat} {A : Option Addr} {c : Nat} {bs : List UInt8} (hr : RdB w (.slice A bs.length c) bs) (h1 : l ≤ h) (h2 : h ≤ bs.length) :
    RdB w (.slice (cutA A c l 1) (h - l) (c - l)) ((bs.drop l).take (h - l)) := by
  have := Rd.cut hr h1 h2
  simp only [Nat.mul_one, ← List.map_drop, ← List.map_take] at this
  have e : ((bs.drop l).take (h - l)).length = h - l := by rw [List.length_take, List.length_drop]; omega
  unfold RdB
  rw [e]
  exact this
theorem run_cutNil {t el n : Nat} {a : Act} {nn : Nat} {D : List Deferred} (ha : Agrees nn D E a) {lo hi : Option Operand} {l h : Nat} (hu : P.underlying t = some (.slice el)) (hs : ∀ w, (sizeOf el).run P w = .ok n w) (hx : ev E x = some (.slice none 0 0)) (hl : Bd E lo 0 l) (hh : Bd E hi 0 h) (h1 : l ≤ h) (h2 : h ≤ 0) (w : World) :
    (execOp a.eval ⟨dst, .slice t x lo hi .none, ty, pos, after, g⟩).run P w = .ok (.value (.slice none (h - l) (0 - l))) w := by
  have hr := run_sliceBounds (P := P) ha (is := true) hl hh h1 h2 w
  simp only [execOp, ha.eval hx, Sem.run_bind, Instr.sliceAt, run_underlying hu, Result.andThen_ok, Instr.slice, Sem.run_pure, Option.map_none, hr, hs]
  first | (split <;> simp) | simp
theorem Val.cutRd {t el n c l h sz : Nat} {A : Option Addr} {xs : List Value} {w : World} {lo hi : Option Operand} (hr : Rd w (.slice A n c) sz n xs) (hu : P.underlying t = some (.slice el)) (hs : ∀ w, (sizeOf el).run P w = .ok sz w)
    (hx : ev E x = some (.slice A n c)) (hl : Bd E lo 0 l) (hh : Bd E hi n h) (h1 : l ≤ h) (h2 : h ≤ n) :
    Val P Γ E H ⟨dst, .slice t x lo hi .none, ty, pos, after, g⟩ (.slice (cutA A c l sz) (h - l) (c - l)) := by
  obtain ⟨A', c', e, g2, g3, g4, g5, g6⟩ := hr
  simp only [Value.slice.injEq, true_and] at e
  obtain ⟨rfl, rfl⟩ := e
  cases A with
  | none =>
    obtain ⟨rfl, rfl⟩ := g5 rfl
    exact fun a w ha _ => run_cutNil ha hu hs hx hl hh h1 h2 w
  | some a =>
    obtain ⟨b, o, s⟩ := a
    rcases Nat.eq_zero_or_pos c with hc0 | hc0
    · subst hc0
      obtain rfl : h = 0 := by omega
      obtain rfl : l = 0 := by omega
      intro a w ha _
      have hr := run_sliceBounds (P := P) ha (is := true) hl hh h1 (Nat.le_refl 0) w
      simp only [execOp, ha.eval hx, Sem.run_bind, Instr.sliceAt, run_underlying hu, Result.andThen_ok, Instr.slice, Sem.run_pure, Option.map_none, hr, hs]
      rfl
    · have : s = none := g6 hc0 _ rfl
      subst this
      exact Val.cutSl l h _ _ _ hu hs hx hl hh h1 (by omega) rfl rfl rfl
/-- .. that is read on. -/
theorem At.cutB {t el : Nat} {bs : List UInt8} {lo hi : Option Operand} (l h : Nat) (hr : RdB Γ.w0 v bs) (hu : P.underlying t = some (.slice el)) (hs : ∀ w, (sizeOf el).run P w = .ok 1 w) (hx : ev E x = some v) (hl : Bd E lo 0 l) (hh : Bd E hi bs.length h) (h1 : l ≤ h) (h2 : h ≤ bs.length)
    (hg : g = none) (hn : Nat.blt d Γ.n = true) (k : ∀ v', RdB Γ.w0 v' ((bs.drop l).take (h - l)) → At Γ ((d, v') :: E) H (wpList P ops Q rest)) :
    At Γ E H (wpList P ops Q ({ dst := some d, op := .slice t x lo hi .none, type := ty, pos, after, guard := g } :: rest)) := by
  have hr0 := hr
  obtain ⟨A, c, rfl, _⟩ := hr
  exact At.val (Val.cutRd hr0 hu hs hx hl hh h1 h2) hg rfl hn (k _ (RdB.cut hr0 h1 h2))
theorem QAt.cutB {t el : Nat} {bs : List UInt8} {lo hi : Option Operand} (l h : Nat) (hr : RdB Γ.w0 v bs) (hu : P.underlying t = some (.slice el)) (hs : ∀ w, (sizeOf el).run P w = .ok 1 w) (hx : ev E x = some v) (hl : Bd E lo 0 l) (hh : Bd E hi bs.length h) (h1 : l ≤ h) (h2 : h ≤ bs.length)
    (hg : g = none) (hn : Nat.blt d Γ.n = true) (k : ∀ v', RdB Γ.w0 v' ((bs.drop l).take (h - l)) → QAt P Γ ops ((d, v') :: E) H rest ψ) :
    QAt P Γ ops E H ({ dst := some d, op := .slice t x lo hi .none, type := ty, pos, after, guard := g } :: rest) ψ := by
  have hr0 := hr
  obtain ⟨A, c, rfl, _⟩ := hr
  exact QAt.val (Val.cutRd hr0 hu hs hx hl hh h1 h2) hg rfl hn (k _ (RdB.cut hr0 h1 h2))
/-- The array that a list's first bytes are. -/
theorem At.arrB {t el n : Nat} {bs : List UInt8} (hr : RdB Γ.w0 v bs) (hu : P.underlying t = some (.array n el)) (hx : ev E x = some v) (h1 : n ≤ bs.length) (h0 : 0 < n) (hg : g = none) (hn : Nat.blt d Γ.n = true)
    (k : ∀ b o, (∀ j u, ((bs.take n).map bv)[j]? = some u → Γ.w0.cell? ⟨b, o + j, none⟩ = some u) → At Γ ((d, .pointer (some ⟨b, o, none⟩)) :: E) H (wpList P ops Q rest)) :
    At Γ E H (wpList P ops Q ({ dst := some d, op := .sliceToArrayPointer t x, type := ty, pos, after, guard := g } :: rest)) := by
  obtain ⟨b, o, c, rfl, hc⟩ := hr.at (j := 0) (by omega)
  refine At.val (v := .pointer (some ⟨b, o, none⟩)) (fun a w ha _ => ?_) hg rfl hn (k b o fun j u hj => ?_)
  · simp [execOp, ha.eval hx, Instr.arrayAt, Sem.run_bind, run_underlying hu, show ¬ bs.length < n by omega]
  · have := hc j u (by
      rw [List.map_take, List.getElem?_take] at hj
      split at hj
      · simpa using hj
      · cases hj)
    simpa using this
end
end Go.Wk

set_option linter.unusedVariables false
set_option linter.unusedSimpArgs false
namespace Go.Wk
open Go
section
variable {P : Program} {Γ : Ctx} {E : Env} {H : List Res} {ops : Array Oper} {Q : Exit → Act → World → Prop} {rest : List Oper}
  {d : Nat} {ty : TypeId} {pos : String} {after : Array Edge} {x y z : Operand} {v u vy : Value} {g : Option (Nat × Bool)}
theorem At.appendRd {i t e sz by_ n m : Nat} {ti : TypeInfo} {z : Value} {xs ys : List Value} (ht : P.underlying t = some (.slice e)) (hti : P.info? e = some ti) (hz : ti.zero = some z) (hsize : ti.size = sz) (hby : ti.bytes = by_) (hzs : z.cells.size = sz) (hsz : Nat.blt 0 sz = true)
    (hx : ev E x = some v) (hy : ev E y = some vy) (hi : H[i]? = some (rowR v e sz n xs)) (hr : Rd Γ.w0 vy sz m ys) (ho : Off vy ys Γ.S) (h1 : ∀ u ∈ ys, u.oneCell' = true) (h63 : (n + m) * by_ ≤ 140737488355328) (h64 : n + m ≤ 140737488355328) (hn : Nat.blt d Γ.n = true)
    (k : ∀ v', At Γ ((d, v') :: E) (H.set i (rowR v' e sz (n + m) (xs ++ ys))) (wpList P ops Q rest)) :
    At Γ E H (wpList P ops Q ({ dst := some d, op := .call { callee := .builtin .append, args := #[x, y], argTypes := #[t, t] }, type := ty, pos, after, guard := none } :: rest)) := by
  have hr0 := hr
  obtain ⟨A, c, rfl, g2, g3, g4, g5, g6⟩ := hr
  refine At.appendSl ht hti hz hsize hby hzs hsz hx hy hi g3 g4 g5 g6 (fun w hw => ?_) h1 h63 h64 hn k
  obtain ⟨A', c', e, q2, _⟩ := hr0.keep hw ho
  simp only [Value.slice.injEq, true_and] at e
  obtain ⟨rfl, rfl⟩ := e
  exact q2
theorem At.appendRow {i j t e e' sz by_ n m : Nat} {ti : TypeInfo} {z : Value} {xs ys : List Value} (ht : P.underlying t = some (.slice e)) (hti : P.info? e = some ti) (hz : ti.zero = some z) (hsize : ti.size = sz) (hby : ti.bytes = by_) (hzs : z.cells.size = sz) (hsz : Nat.blt 0 sz = true)
    (hx : ev E x = some v) (hy : ev E y = some vy) (hi : H[i]? = some (rowR v e sz n xs)) (hj : H[j]? = some (rowR vy e' sz m ys)) (h1 : ∀ u ∈ ys, u.oneCell' = true) (h63 : (n + m) * by_ ≤ 140737488355328) (h64 : n + m ≤ 140737488355328) (hn : Nat.blt d Γ.n = true)
    (k : ∀ v', At Γ ((d, v') :: E) (H.set i (rowR v' e sz (n + m) (xs ++ ys))) (wpList P ops Q rest)) :
    At Γ E H (wpList P ops Q ({ dst := some d, op := .call { callee := .builtin .append, args := #[x, y], argTypes := #[t, t] }, type := ty, pos, after, guard := none } :: rest)) := fun a w ha hw => by
  have hsz' : 0 < sz := by simpa [Nat.blt_eq] using hsz
  have hr := row_rd (hw.row hj) hsz'
  obtain ⟨A, c, rfl, g2, g3, g4, g5, g6⟩ := hr
  refine At.appendSl ht hti hz hsize hby hzs hsz hx hy hi g3 g4 g5 g6 (fun w hw => ?_) h1 h63 h64 hn k a w ha hw
  obtain ⟨A', c', e, q2, _⟩ := row_rd (hw.row hj) hsz'
  simp only [Value.slice.injEq, true_and] at e
  obtain ⟨rfl, rfl⟩ := e
  exact q2
theorem bv_one (l : List UInt8) : ∀ u ∈ l.map bv, u.oneCell' = true := fun u hu => by
  obtain ⟨c, _, rfl⟩ := List.mem_map.1 hu
  rfl
theorem At.appendRdB {i t e by_ : Nat} {ti : TypeInfo} {z : Value} {l m : List UInt8} (ht : P.underlying t = some (.slice e)) (hti : P.info? e = some ti) (hz : ti.zero = some z) (hsize : ti.size = 1) (hby : ti.bytes = by_) (hzs : z.cells.size = 1)
    (hx : ev E x = some v) (hy : ev E y = some vy) (hi : H[i]? = some (rowR v e 1 l.length (l.map bv))) (hr : RdB Γ.w0 vy m) (ho : Off vy (m.map bv) Γ.S) (h63 : (l.length + m.length) * by_ ≤ 140737488355328) (h64 : l.length + m.length ≤ 140737488355328) (hn : Nat.blt d Γ.n = true)
    (k : ∀ v', At Γ ((d, v') :: E) (H.set i (brow e v' (l ++ m))) (wpList P ops Q rest)) :
    At Γ E H (wpList P ops Q ({ dst := some d, op := .call { callee := .builtin .append, args := #[x, y], argTypes := #[t, t] }, type := ty, pos, after, guard := none } :: rest)) :=
  At.appendRd ht hti hz hsize hby hzs rfl hx hy hi hr ho (bv_one m) h63 h64 hn fun v' => by
    have := k v'
    simpa only [brow, List.map_append, List.length_append] using this
theorem At.appendRowB {i j t e e' by_ : Nat} {ti : TypeInfo} {z : Value} {l m : List UInt8} (ht : P.underlying t = some (.slice e)) (hti : P.info? e = some ti) (hz : ti.zero = some z) (hsize : ti.size = 1) (hby : ti.bytes = by_) (hzs : z.cells.size = 1)
    (hx : ev E x = some v) (hy : ev E y = some vy) (hi : H[i]? = some (rowR v e 1 l.length (l.map bv))) (hj : H[j]? = some (rowR vy e' 1 m.length (m.map bv))) (h63 : (l.length + m.length) * by_ ≤ 140737488355328) (h64 : l.length + m.length ≤ 140737488355328) (hn : Nat.blt d Γ.n = true)
    (k : ∀ v', At Γ ((d, v') :: E) (H.set i (brow e v' (l ++ m))) (wpList P ops Q rest)) :
    At Γ E H (wpList P ops Q ({ dst := some d, op := .call { callee := .builtin .append, args := #[x, y], argTypes := #[t, t] }, type := ty, pos, after, guard := none } :: rest)) :=
  At.appendRow ht hti hz hsize hby hzs rfl hx hy hi hj (bv_one m) h63 h64 hn fun v' => by
    have := k v'
    simpa only [brow, List.map_append, List.length_append] using this
/-- A nil slice is a row of no bytes. -/
theorem At.rowNilB (e : Nat) {φ : Act → World → Prop} (k : At Γ E (brow e (.slice none 0 0) [] :: H) φ) : At Γ E H φ := At.rowNil e 1 k
/-- One byte behind a row. -/
theorem At.appendB1 {i j t e by_ b U : Nat} {ti : TypeInfo} {z : Value} {l : List UInt8} {c : UInt8} (ht : P.underlying t = some (.slice e)) (hti : P.info? e = some ti) (hz : ti.zero = some z) (hsize : ti.size = 1) (hby : ti.bytes = by_) (hzs : z.cells.size = 1)
    (hx : ev E x = some v) (hy : ev E y = some (.slice (some ⟨b, 0, none⟩) 1 1)) (hi : H[i]? = some (rowR v e 1 l.length (l.map bv))) (hj : H[j]? = some (blk b U [bv c])) (h63 : (l.length + 1) * by_ ≤ 140737488355328) (h64 : l.length + 1 ≤ 140737488355328) (hn : Nat.blt d Γ.n = true)
    (k : ∀ v', At Γ ((d, v') :: E) (H.set i (brow e v' (l ++ [c]))) (wpList P ops Q rest)) :
    At Γ E H (wpList P ops Q ({ dst := some d, op := .call { callee := .builtin .append, args := #[x, y], argTypes := #[t, t] }, type := ty, pos, after, guard := none } :: rest)) :=
  At.append (i := i) (ys := [bv c]) ht hti hz hsize hby hzs rfl hx hy hi rfl (fun w hw j' u hj' => by rw [Nat.zero_add]; exact ((hw.blk hj).cell j').trans hj') (by simp [Value.oneCell']) h63 h64 hn fun v' => by
    have := k v'
    rw [← brow_snoc] at this
    exact this
/-- A string out of a row, a list. -/
theorem Val.strRd {s t e : Nat} {l : List UInt8} (hs : P.underlying s = some (.slice e)) (he : P.underlying e = some (.int .u8)) (ht : P.underlying t = some .string) (hx : ev E x = some v) (hr : ∀ w, Rep Γ.w0 Γ.S H w → RdB w v l) {dst : Option Tmp} :
    Val P Γ E H ⟨dst, .convert s t x, ty, pos, after, g⟩ (.string ⟨l.toArray⟩) := fun a w ha hw => by
  have h0 := hr w hw
  obtain ⟨A, c, rfl, hb, h1, h2, h3⟩ := h0.bytes
  cases A with
  | none =>
    have hl : l = [] := List.eq_nil_of_length_eq_zero (h2 rfl).1
    subst hl
    have hc : c = 0 := (h2 rfl).2
    subst hc
    simp [execOp, ha.eval hx, convert, Sem.run_bind, run_underlying hs, run_underlying ht, run_underlying he, Conv.bytesToString]
    rfl
  | some a0 =>
    obtain ⟨b, o, s0⟩ := a0
    by_cases hl : l = []
    · subst hl
      have hr := run_bytesToString (P := P) w ⟨b, o, s0⟩ 0 c [] (by simp [loadCells, loadCellsFrom, Sem.run_pure])
      simp [execOp, ha.eval hx, run_convert_bytes_string w s t e _ _ _ hs he ht]
      rw [hr]
      rfl
    have : s0 = none := h3 (Nat.lt_of_lt_of_le (List.length_pos_iff.2 hl) h1) _ rfl
    subst this
    exact Val.strOf (Γ := ⟨w, fun _ => False, Γ.n, Γ.D⟩) (H := []) hs he ht hx rfl (fun w' hw' => hb.mod hw'.mod) a w ha ⟨by simp, by simp, by simp, Mod.refl _ _⟩
end
end Go.Wk

set_option linter.unusedVariables false
set_option linter.unusedSimpArgs false
namespace Go.Wk
open Go
section
variable {P : Program} {ops : Array Oper} {Q : Exit → Act → World → Prop} {Mid : Act → World → Prop}
theorem Oper.wp_then {o : Oper} {a : Act} {w : World} {K K' : Act → World → Prop} (h : ∀ a w, K a w → K' a w) (hh : o.wp P a w K (Exit.then Mid Q)) : o.wp P a w K' Q := by
  unfold Oper.wp at *
  generalize (execOp a.eval o).run P w = r at *
  cases r with
  | ok n w' =>
    cases n <;> simp only [Oper.upon] at hh ⊢ <;>
      first
        | exact h _ _ hh
        | exact Calls.mono hh (fun e w'' he => by cases e <;> first | exact h _ _ he | exact he)
        | exact Rows.mono hh (fun _ _ he => h _ _ he)
  | halt x w' => cases x <;> simp only [Oper.upon] at hh ⊢ <;> exact hh
theorem wpList_cut {l2 : List Oper} (h2 : ∀ a w, Mid a w → wpList P ops Q l2 a w) : ∀ {l : List Oper} {a : Act} {w : World}, wpList P ops (Exit.then Mid Q) l a w → wpList P ops Q (l ++ l2) a w
  | [], a, w, h => h2 _ _ h
  | o :: l, a, w, h => by
    simp only [List.cons_append]
    unfold wpList at h ⊢
    by_cases hw : Region.wanted o (yielded ops a.tmps) = true
    · rw [if_pos hw] at h ⊢
      rcases h with h | ⟨h, h'⟩
      · exact .inl (Oper.wp_then (fun _ _ k => wpList_cut h2 k) h)
      · exact .inr ⟨h, h'⟩
    · rw [if_neg hw] at h ⊢
      exact wpList_cut h2 h
theorem wpQuiet_cut {C : World → Prop} {ψ ψ' : Act → Prop} {l2 : List Oper} (h2 : ∀ a, ψ' a → wpQuiet P ops C ψ l2 a) : ∀ {l : List Oper} {a : Act}, wpQuiet P ops C ψ' l a → wpQuiet P ops C ψ (l ++ l2) a
  | [], a, h => h2 _ h
  | o :: l, a, h => by
    simp only [List.cons_append]
    unfold wpQuiet at h ⊢
    by_cases hw : Region.wanted o (yielded ops a.tmps) = true
    · rw [if_pos hw] at h ⊢
      exact Go.Oper.quiet_mono (fun _ k => wpQuiet_cut h2 k) h
    · rw [if_neg hw] at h ⊢
      exact wpQuiet_cut h2 h
end
section
variable {P : Program} {Γ : Ctx} {E E' : Env} {H : List Res} {ops : Array Oper} {Q : Exit → Act → World → Prop} {rest l : List Oper}
  {d : Nat} {dst : Option Tmp} {ty : TypeId} {pos : String} {after : Array Edge} {x y z : Operand} {v u : Value} {g : Option (Nat × Bool)} {ψ : Act → Prop}
theorem QAt.weaken (E' : Env) (hE : Sub E E') (k : QAt P Γ ops E' H l ψ) : QAt P Γ ops E H l ψ := fun a ha => k a (ha.weaken hE)
/-- The ways through the next n operations meet: slot d holds b there. -/
def BoolMid (Γ : Ctx) (E : Env) (H : List Res) (d : Nat) (b : Bool) (a : Act) (w : World) : Prop := Agrees Γ.n Γ.D ((d, .bool b) :: E) a ∧ Rep Γ.w0 Γ.S H w
theorem At.boolMeet (n d : Nat) (b : Bool) (h1 : At Γ E H (wpList P ops (Exit.then (BoolMid Γ E H d b) Q) (l.take n))) (h2 : At Γ ((d, .bool b) :: E) H (wpList P ops Q (l.drop n))) : At Γ E H (wpList P ops Q l) := fun a w ha hw => by
  rw [← List.take_append_drop n l]
  exact wpList_cut (fun a w h => h2 a w h.1 h.2) (h1 a w ha hw)
theorem At.boolEnd {d : Nat} {b c : Bool} (hl : look E' d = some (.bool c)) (hc : c = b) (hE : Sub E' E) : At Γ E' H (Exit.then (BoolMid Γ E H d b) Q .normal) := fun a w ha hw => by
  subst hc
  exact ⟨ha.weaken (Sub.cons hl hE), hw⟩
theorem QAt.boolMeet (n d : Nat) (b : Bool) (h1 : QAt P Γ ops E H (l.take n) (fun a => Agrees Γ.n Γ.D ((d, .bool b) :: E) a)) (h2 : QAt P Γ ops ((d, .bool b) :: E) H (l.drop n) ψ) : QAt P Γ ops E H l ψ := fun a ha => by
  rw [← List.take_append_drop n l]
  exact wpQuiet_cut (fun a h => h2 a h) (h1 a ha)
theorem QAt.boolEnd {d : Nat} {b c : Bool} (hl : look E' d = some (.bool c)) (hc : c = b) (hE : Sub E' E) : QAt P Γ ops E' H [] (fun a => Agrees Γ.n Γ.D ((d, .bool b) :: E) a) := fun a ha => by
  subst hc
  exact wpQuiet_nil (ha.weaken (Sub.cons hl hE))
/-- A slice that is built out of values owns its row. -/
theorem At.buildRow {t e n : Nat} {parts : Array (Nat × Operand)} {vs : Array (Nat × Value)} {cs : List Value} (hp : ∀ a : Act, Agrees Γ.n Γ.D E a → (parts.map fun p => (p.1, a.eval p.2)) = vs)
    (hb : ∀ w, (Instr.buildSlice t n vs).run P w = .ok (.slice (some ⟨w.heap.size, 0, none⟩) n n) (w.alloc (.cells cs.toArray e))) (sz : Nat) (hl : cs.length = n * sz) (hm : n ≤ 140737488355328) (hn : Nat.blt d Γ.n = true)
    (k : ∀ v, At Γ ((d, v) :: E) (rowR v e sz n cs :: H) (wpList P ops Q rest)) :
    At Γ E H (wpList P ops Q ({ dst := some d, op := .buildSlice t n parts, type := ty, pos, after, guard := none } :: rest)) :=
  At.run rfl rfl hn fun a w ha hw => by
    refine ⟨_, _, _, ?_, hw.new (r' := rowR (.slice (some ⟨w.heap.size, 0, none⟩) n n) e sz n cs) (Mod.alloc w (.cells cs.toArray e)) ?_ (fun b hb => ?_), k _⟩
    · have := hp a ha
      simp only [execOp]
      rw [show (parts.map fun (x : Nat × Operand) => (x.1, a.eval x.2)) = vs from this]
      simp [Sem.run_bind, hb]
    · exact ⟨hl, .inr ⟨w.heap.size, n, cs.toArray, rfl, Nat.zero_le _, heap_alloc_new w _, Nat.le_refl _, by unfold maxLen; omega, by simpa using hl, by rw [← hl]; simp⟩⟩
    · simp only [rowR, Value.ownBlock, Option.some.injEq] at hb
      omega
theorem Val.toB {s t : TypeId} {ds : TypeDesc} {k' : IntKind} {b : Int} (hs : P.underlying s = some ds) (ht : P.underlying t = some (.int .u8)) (hx : ev E x = some (.int k' b)) (h0 : 0 ≤ b) :
    Val P Γ E H ⟨dst, .convert s t x, ty, pos, after, g⟩ (bv (UInt8.ofNat b.toNat)) := by
  have := Val.conv (P := P) (Γ := Γ) (H := H) (dst := dst) (g := g) (ty := ty) (pos := pos) (after := after) hs ht hx
  rwa [show b = ((b.toNat : Nat) : Int) by omega, wrap_u8_nat] at this
theorem or_one {o i : Int} (h : o = 0 ∨ i = 0) (ho : 0 ≤ o) (ho' : o ≤ 9223372036854775807) (hi : 0 ≤ i) (hi' : i ≤ 9223372036854775807) : ib .or .i64 o i = o + i := by
  have key : ∀ x : Int, 0 ≤ x → x ≤ 9223372036854775807 → IntKind.i64.wrap ((BitVec.ofInt 64 x).toNat : Int) = x := fun x h0 h1 => by
    rw [BitVec.toNat_ofInt, show x % ((2 ^ 64 : Nat) : Int) = x from Int.emod_eq_of_lt h0 (by omega), wrap_i64 (by omega) (by omega)]
    omega
  have z : BitVec.ofInt 64 0 = 0#64 := rfl
  rcases h with rfl | rfl
  · show IntKind.i64.wrap ((BitVec.ofInt 64 0 ||| BitVec.ofInt 64 i).toNat : Int) = 0 + i
    rw [z, BitVec.zero_or, key i hi hi', Int.zero_add]
  · show IntKind.i64.wrap ((BitVec.ofInt 64 o ||| BitVec.ofInt 64 0).toNat : Int) = o + 0
    rw [z, BitVec.or_zero, key o ho ho', Int.add_zero]
def vN (s : ByteArray) : Nat := if validB s then 1 else 0
theorem vN_T {s : ByteArray} : validB s = true ↔ vN s = 1 := by unfold vN; cases validB s <;> simp
theorem vN_F {s : ByteArray} : validB s = false ↔ vN s = 0 := by unfold vN; cases validB s <;> simp
theorem nmE_T {s : ByteArray} : (s.toList == (ByteArray.mk #[]).toList) = true ↔ s.size = 0 := by
  rw [ByteArray.toList_eq, ByteArray.toList_eq, ← size_len]
  show (s.data.toList == ([] : List UInt8)) = true ↔ s.data.toList.length = 0
  rw [beq_iff_eq, List.length_eq_zero_iff]
theorem nmE_F {s : ByteArray} : (s.toList == (ByteArray.mk #[]).toList) = false ↔ s.size ≠ 0 := by
  rw [← Bool.not_eq_true, nmE_T]
end
end Go.Wk

set_option linter.unusedVariables false
set_option linter.unusedSimpArgs false
namespace Go.Wk
open Go
section
variable {P : Program} {Γ : Ctx} {E E' : Env} {H : List Res} {ops : Array Oper} {Q : Exit → Act → World → Prop} {rest l : List Oper}
  {d : Nat} {dst : Option Tmp} {ty : TypeId} {pos : String} {after : Array Edge} {x y z : Operand} {v u : Value} {g : Option (Nat × Bool)} {ψ : Act → Prop}
theorem grown_none {w w' : World} (h : w.grownBy w' none) : Mod (fun _ => False) w w' := ⟨h.size, fun b hb _ => h.block b hb (fun e => by cases e), h.os, h.tape, h.output⟩
theorem own_block {w : World} {v : Value} {base e sz n : Nat} {xs : List Value} (h : w.ownsRow base e sz v n xs) : ∀ b, v.ownBlock = some b → base ≤ b := fun b hb => (h.lt b hb).1
theorem own_base {w : World} {v : Value} {base e sz n : Nat} {xs : List Value} (h : w.ownsRow base e sz v n xs) : w.ownsRow 0 e sz v n xs := by
  refine ⟨h.1, ?_⟩
  rcases h.2 with hn | ⟨g, cap, cur, h1, h2, rest⟩
  · exact .inl hn
  · exact .inr ⟨g, cap, cur, h1, Nat.zero_le _, rest⟩
theorem At.makeRow {t e sz n : Nat} {ti : TypeInfo} {zv : Value} {cs : List Value} (ht : P.underlying t = some (.slice e)) (hti : P.info? e = some ti) (hz : ti.zero = some zv) (hsize : ti.size = sz) (hcs : (madeCells zv.cells (n * sz)).toList = cs)
    (hx : ev E x = some (.int .i64 (n : Int))) (hy : ev E y = some (.int .i64 (n : Int))) (hbytes : ti.bytes * n ≤ 281474976710656) (h63 : n ≤ 140737488355328) (hn : Nat.blt d Γ.n = true)
    (k : ∀ v, At Γ ((d, v) :: E) (rowR v e sz n cs :: H) (wpList P ops Q rest)) :
    At Γ E H (wpList P ops Q ({ dst := some d, op := .makeSlice t x y, type := ty, pos, after, guard := none } :: rest)) :=
  At.run rfl rfl hn fun a w ha hw => by
    obtain ⟨w', hr, hown, hg⟩ := run_make_full (P := P) w w.heap.size t e ti zv sz ht hti hz hsize .i64 .i64 n hbytes (by unfold maxLen; omega) (Nat.le_refl _)
    refine ⟨_, w', _, by simp [execOp, ha.eval hx, ha.eval hy, Sem.run_bind, hr], hw.new (r' := rowR _ e sz n cs) (grown_none hg) (by subst hcs; exact own_base hown) (fun b hb => own_block hown b hb), k _⟩
theorem At.makeRow0 {t e sz c : Nat} {ti : TypeInfo} {zv : Value} (ht : P.underlying t = some (.slice e)) (hti : P.info? e = some ti) (hz : ti.zero = some zv) (hsize : ti.size = sz)
    (hx : ev E x = some (.int .i64 0)) (hy : ev E y = some (.int .i64 (c : Int))) (hbytes : ti.bytes * c ≤ 281474976710656) (h63 : c ≤ 140737488355328) (hn : Nat.blt d Γ.n = true)
    (k : ∀ v, At Γ ((d, v) :: E) (rowR v e sz 0 [] :: H) (wpList P ops Q rest)) :
    At Γ E H (wpList P ops Q ({ dst := some d, op := .makeSlice t x y, type := ty, pos, after, guard := none } :: rest)) :=
  At.run rfl rfl hn fun a w ha hw => by
    obtain ⟨w', hr, hown, hg⟩ := run_make_own (P := P) w w.heap.size t e ti zv sz ht hti hz hsize .i64 .i64 c hbytes (by unfold maxLen; omega) (Nat.le_refl _)
    refine ⟨_, w', _, by simp [execOp, ha.eval hx, ha.eval hy, Sem.run_bind, hr], hw.new (r' := rowR _ e sz 0 []) (grown_none hg) (own_base hown) (fun b hb => own_block hown b hb), k _⟩
theorem made_zs (n : Nat) : (madeCells #[Value.int .u8 0] (n * 1)).toList = (zs n).map bv := by
  rw [zs_bv, Nat.mul_one]
  apply List.ext_getElem
  · simp [madeCells]
  · intro i h1 h2
    simp [madeCells, Nat.mod_one]
theorem At.makeRowB {t e n : Nat} {ti : TypeInfo} (ht : P.underlying t = some (.slice e)) (hti : P.info? e = some ti) (hz : ti.zero = some (.int .u8 0)) (hsize : ti.size = 1) (hb : ti.bytes = 1)
    (hx : ev E x = some (.int .i64 (n : Int))) (hy : ev E y = some (.int .i64 (n : Int))) (h63 : n ≤ 140737488355328) (hn : Nat.blt d Γ.n = true)
    (k : ∀ v, At Γ ((d, v) :: E) (brow e v (zs n) :: H) (wpList P ops Q rest)) :
    At Γ E H (wpList P ops Q ({ dst := some d, op := .makeSlice t x y, type := ty, pos, after, guard := none } :: rest)) :=
  At.makeRow ht hti hz hsize (made_zs n) hx hy (by rw [hb]; omega) h63 hn fun v => by
    have := k v
    unfold brow at this
    rwa [zs_length] at this
theorem At.makeRow0B {t e c : Nat} {ti : TypeInfo} (ht : P.underlying t = some (.slice e)) (hti : P.info? e = some ti) (hz : ti.zero = some (.int .u8 0)) (hsize : ti.size = 1) (hb : ti.bytes = 1)
    (hx : ev E x = some (.int .i64 0)) (hy : ev E y = some (.int .i64 (c : Int))) (h63 : c ≤ 140737488355328) (hn : Nat.blt d Γ.n = true)
    (k : ∀ v, At Γ ((d, v) :: E) (brow e v [] :: H) (wpList P ops Q rest)) :
    At Γ E H (wpList P ops Q ({ dst := some d, op := .makeSlice t x y, type := ty, pos, after, guard := none } :: rest)) :=
  At.makeRow0 ht hti hz hsize hx hy (by rw [hb]; omega) h63 hn k
/-- A part of a row. -/
theorem Val.cutRow {i t el e n c l h sz : Nat} {A : Option Addr} {xs : List Value} {lo hi : Option Operand} (hr : H[i]? = some (rowR (.slice A n c) e sz n xs)) (hsz : 0 < sz) (hu : P.underlying t = some (.slice el)) (hs : ∀ w, (sizeOf el).run P w = .ok sz w)
    (hx : ev E x = some (.slice A n c)) (hl : Bd E lo 0 l) (hh : Bd E hi n h) (h1 : l ≤ h) (h2 : h ≤ n) :
    Val P Γ E H ⟨dst, .slice t x lo hi .none, ty, pos, after, g⟩ (.slice (cutA A c l sz) (h - l) (c - l)) := fun a w ha hw =>
  Val.cutRd (Γ := Γ) (H := H) (row_rd (hw.row hr) hsz) hu hs hx hl hh h1 h2 a w ha hw
/-- A byte of a row is turned, or laid. -/
theorem At.storeRowB {i t e q : Nat} {l : List UInt8} {c : UInt8} (hs : ∀ w, (sizeOf t).run P w = .ok 1 w) (hx : ev E x = some (.pointer (some ⟨rowB v, q, none⟩))) (hy : ev E y = some (bv c)) (hi : H[i]? = some (rowR v e 1 l.length (l.map bv))) (hq : q < l.length)
    (k : At Γ E (H.set i (brow e v (l.set q c))) (wpList P ops Q rest)) : At Γ E H (wpList P ops Q ({ dst := .none, op := .store t x y, type := ty, pos, after, guard := none } :: rest)) :=
  At.storeRow hs hx hy rfl hi (by simpa using hq) (by rw [brow_set]; exact k)
end
end Go.Wk

set_option linter.unusedVariables false
set_option linter.unusedSimpArgs false
namespace Go.Wk
open Go
section
variable {P : Program} {Γ : Ctx} {E E' : Env} {H : List Res} {ops : Array Oper} {Q : Exit → Act → World → Prop} {rest : List Oper}
  {d : Nat} {ty : TypeId} {pos : String} {after : Array Edge}
def SomeC (P : Program) (f : FuncId) (vs : List Value) (R : Value → Prop) (w : World) : Prop := Calls P f vs.toArray w fun e w' => ∃ v, R v ∧ e = .returned v ∧ Mod (fun _ => False) w w'
theorem At.callX {R : Value → Prop} {f : FuncId} {l : List Operand} {vs : List Value} {at_ : Array TypeId} (h : ∀ w, Rep Γ.w0 Γ.S H w → SomeC P f vs R w) (hc : ∀ args w, (callFunc f args).run P w = .ok (.enter f args) w) (hv : evs E l = some vs) (hn : Nat.blt d Γ.n = true)
    (k : ∀ v, R v → At Γ ((d, v) :: E) H (wpList P ops Q rest)) :
    At Γ E H (wpList P ops Q ({ dst := some d, op := .call { callee := .value (.func f), args := l.toArray, argTypes := at_ }, type := ty, pos, after, guard := none } :: rest)) :=
  At.call hc hv hn fun w hw => (h w hw).mono fun e w' ⟨v, hR, he, hm⟩ => ⟨v, H, he, hw.garbage hm, k v hR⟩
/-- A callee that makes a row of its own, of which something is known. -/
def SomeRow (P : Program) (f : FuncId) (vs : List Value) (e sz : Nat) (R : Nat → List Value → Prop) (w : World) : Prop :=
  Calls P f vs.toArray w fun r w' => ∃ v n xs, R n xs ∧ r = .returned v ∧ Rep w (feet []) [rowR v e sz n xs] w'
theorem At.callRX {R : Nat → List Value → Prop} {e sz : Nat} {f : FuncId} {l : List Operand} {vs : List Value} {at_ : Array TypeId} (h : ∀ w, Rep Γ.w0 Γ.S H w → SomeRow P f vs e sz R w) (hc : ∀ args w, (callFunc f args).run P w = .ok (.enter f args) w) (hv : evs E l = some vs) (hn : Nat.blt d Γ.n = true)
    (k : ∀ v n xs, R n xs → At Γ ((d, v) :: E) (rowR v e sz n xs :: H) (wpList P ops Q rest)) :
    At Γ E H (wpList P ops Q ({ dst := some d, op := .call { callee := .value (.func f), args := l.toArray, argTypes := at_ }, type := ty, pos, after, guard := none } :: rest)) :=
  At.call hc hv hn fun w hw => (h w hw).mono fun r w' ⟨v, n, xs, hR, he, hr⟩ => ⟨v, _, he, by
    have := Rep.frame (H0 := []) (F := H) (by simpa using hw) hr
    simpa using this, k v n xs hR⟩
end
end Go.Wk

set_option linter.unusedVariables false
set_option linter.unusedSimpArgs false
namespace Go
section
variable {P : Program} {ops : Array Oper} {Q : Exit → Act → World → Prop} {md : Region.Mode} {S : World → Prop} {t : Nat}
/-- Whatever order is picked from here on; S holds behind every operation ahead of number t that is carried out. -/
def wpAnyK (P : Program) (md : Region.Mode) (ops : Array Oper) (Q : Exit → Act → World → Prop) (S : World → Prop) (t : Nat) : Nat → Array Bool → Act → World → Prop
  | 0, listed, a, w => Region.ready md ops listed = [] ∧ Q .normal a w
  | fuel + 1, listed, a, w =>
    (Region.ready md ops listed = [] → Q .normal a w) ∧
    ∀ i ∈ Region.ready md ops listed, wpOp P ops Q i (fun a' w' => (i < t → S w') ∧ wpAnyK P md ops Q S t fuel (listed.setIfInBounds i true) a' w') a w
theorem wpAny_of_K : ∀ (fuel : Nat) (listed : Array Bool) (a : Act) (w : World), wpAnyK P md ops Q S t fuel listed a w → wpAny P md ops Q fuel listed a w
  | 0, _, _, _, h => h
  | fuel + 1, _, _, _, h => ⟨h.1, fun i hi => wpOp_mono (fun a' w' h' => wpAny_of_K fuel _ a' w' h'.2) (h.2 i hi)⟩
theorem wpAnyK_first {i : Nat} {oi : Oper} {v : Value} (hi : ops[i]? = some oi) (hsel : ∀ (j : Nat) (o : Oper) cs b, ops[j]? = some o → o.op ≠ .select cs b)
    (hQ : ∀ c a w, Q (.panic c) (a.put oi.dst v) w → Q (.panic c) a w) (htail : ∀ j oj, ops[j]? = some oj → t ≤ j → ∃ e ∈ oj.after, Region.binds md e = true ∧ e.on = i) :
    ∀ (fuel : Nat) (listed : Array Bool) (a : Act) (w : World),
      (∀ j oj, ops[j]? = some oj → j ≠ i → listed.getD j true = false → (∀ e ∈ oj.after, Region.binds md e = true → e.on ≠ i) → oi.apart ops oj = true) →
      i ∈ Region.ready md ops listed → i < t → YieldsIf P ops S oi v a → S w →
      wpAnyK P md ops Q S t fuel (listed.setIfInBounds i true) (a.put oi.dst v) w → wpAnyK P md ops Q S t (fuel + 1) listed a w := by
  intro fuel
  induction fuel with
  | zero =>
    intro listed a w _ hr hit hy hS H
    refine ⟨fun h => (by rw [h] at hr; cases hr), fun j hj => ?_⟩
    by_cases hji : j = i
    · subst hji; exact hy.wpOp hi hS ⟨fun _ => hS, H⟩
    · have := ready_mono hj hji
      rw [H.1] at this
      cases this
  | succ fuel ih =>
    intro listed a w hfree hr hit hy hS H
    refine ⟨fun h => (by rw [h] at hr; cases hr), fun j hj => ?_⟩
    by_cases hji : j = i
    · subst hji; exact hy.wpOp hi hS ⟨fun _ => hS, H⟩
    · have h1 := H.2 j (ready_mono hj hji)
      obtain ⟨hjun, oj, hoj, hall⟩ := mem_ready.1 hj
      have hnot : ∀ e ∈ oj.after, Region.binds md e = true → e.on ≠ i := fun e he hb heq => by
        have h1 := hall e he hb
        have h0 := (mem_ready.1 hr).1
        rw [heq] at h1
        rcases Nat.lt_or_ge i listed.size with h' | h'
        · simp [h'] at h0 h1; rw [h0] at h1; cases h1
        · simp [Array.getElem?_eq_none h'] at h1
      have hjt : j < t := Nat.lt_of_not_le fun hge => by
        obtain ⟨e, he, hb, heq⟩ := htail j oj hoj hge
        exact hnot e he hb heq
      have h2 := wpOp_putIf hoj (hfree j oj hoj hji hjun hnot) (fun cs b => hsel i oi cs b hi) (fun cs b => hsel j oj cs b hoj) hQ hy h1
      have hfree' : ∀ k ok, ops[k]? = some ok → k ≠ i → (listed.setIfInBounds j true).getD k true = false →
          (∀ e ∈ ok.after, Region.binds md e = true → e.on ≠ i) → oi.apart ops ok = true := fun k ok hk hki hun hno => by
        refine hfree k ok hk hki ?_ hno
        by_cases hjk : j = k
        · subst hjk; exact hjun
        · rw [getD_set_ne true hjk] at hun; exact hun
      refine wpOp_mono (fun a' w' h3 => ⟨fun _ => h3.2.1 hjt, ih (listed.setIfInBounds j true) a' w' hfree' (ready_mono hr (Ne.symm hji)) hit h3.1 (h3.2.1 hjt) ?_⟩) h2
      rw [Array.setIfInBounds_comm _ _ hji]
      exact h3.2.2
def tailB (md : Region.Mode) (ops : Array Oper) (t i : Nat) : Bool := (List.range (ops.size - t)).all fun k => match ops[t + k]? with | some o => o.after.any fun e => Region.binds md e && e.on == i | none => true
theorem tailB_spec {i : Nat} (h : tailB md ops t i = true) : ∀ j oj, ops[j]? = some oj → t ≤ j → ∃ e ∈ oj.after, Region.binds md e = true ∧ e.on = i := fun j oj hj htj => by
  have hlt : j < ops.size := by
    rcases Nat.lt_or_ge j ops.size with h' | h'
    · exact h'
    · rw [Array.getElem?_eq_none h'] at hj; cases hj
  have := List.all_eq_true.1 h (j - t) (List.mem_range.2 (by omega))
  rw [show t + (j - t) = j by omega, hj] at this
  simp only [Array.any_eq_true, Bool.and_eq_true, beq_iff_eq] at this
  obtain ⟨k, hk, h1, h2⟩ := this
  exact ⟨_, Array.getElem_mem hk, h1, h2⟩
end
namespace Wk
section
variable {P : Program} {Γ : Ctx} {E E' : Env} {H H' HS : List Res} {ops : Array Oper} {Q : Exit → Act → World → Prop} {t fuel : Nat} {listed : Array Bool} {d i : Nat} {v : Value} {o : Oper}
def NoPanic (Q : Exit → Act → World → Prop) : Exit → Act → World → Prop
  | .panic _, _, _ => False
  | e, a, w => Q e a w
def KAt (P : Program) (Γ : Ctx) (ops : Array Oper) (HS : List Res) (t fuel : Nat) (listed : Array Bool) (E : Env) (H : List Res) (Q : Exit → Act → World → Prop) : Prop :=
  ∀ a w, Agrees Γ.n Γ.D E a → Rep Γ.w0 Γ.S H w → wpAnyK P .any ops (NoPanic Q) (Rep Γ.w0 Γ.S HS) t fuel listed a w
theorem At.any {id : Nat} {l : List Oper} (HS : List Res) (t : Nat) (hm : P.follows .mixedOrders = true) (k : KAt P Γ l.toArray HS t l.length (Array.replicate l.length false) E H Q) : At Γ E H ((Code.region id l.toArray true).wp P Q) := fun a w ha hw => by
  refine wp_mono (Q := NoPanic Q) (wp_region_any hm (wpAny_of_K _ _ _ _ (k a _ ha hw.drew))) fun e a w h => ?_
  cases e <;> first | exact h | exact h.elim
/-- A quiet operation is taken first. -/
theorem KAt.take (i : Nat) {o : Oper} (h : Val P Γ E HS o v) (hi : ops[i]? = some o) (hg : o.guard = none) (hd : o.dst = some d) (hn : Nat.blt d Γ.n = true) (hHS : ∀ w, Rep Γ.w0 Γ.S H w → Rep Γ.w0 Γ.S HS w)
    (hs : (Region.noSelect ops && Region.free .any ops listed i && (Region.ready .any ops listed).contains i && tailB .any ops t i && Nat.blt i t) = true)
    (k : KAt P Γ ops HS t fuel (listed.setIfInBounds i true) ((d, v) :: E) H Q) : KAt P Γ ops HS t (fuel + 1) listed E H Q := fun a w ha hw => by
  simp only [Bool.and_eq_true, Nat.blt_eq] at hs
  obtain ⟨⟨⟨⟨h1, h2⟩, h3⟩, h4⟩, h5⟩ := hs
  refine wpAnyK_first hi (Region.noSelect_spec h1) (fun c a w h => h) (tailB_spec h4) fuel listed a w (Region.free_spec hi h2) (by simpa using h3) h5 (v := v) (.inl ⟨by simp [Region.wanted, hg], fun w hw => h a w ha hw⟩) (hHS w hw) ?_
  rw [hd]
  exact k _ _ (ha.put d v hn) hw
theorem KAt.takeY (i : Nat) {j s : Nat} {b : Bool} {op : Op} {ty : TypeId} {pos : String} {after : Array Edge} (h : Val P Γ E HS ⟨some d, op, ty, pos, after, none⟩ v) (hi : ops[i]? = some ⟨some d, op, ty, pos, after, some (j, b)⟩) (hj : (ops[j]?).bind (·.dst) = some s) (hl : look E s = some (.bool b)) (hn : Nat.blt d Γ.n = true) (hHS : ∀ w, Rep Γ.w0 Γ.S H w → Rep Γ.w0 Γ.S HS w)
    (hs : (Region.noSelect ops && Region.free .any ops listed i && (Region.ready .any ops listed).contains i && tailB .any ops t i && Nat.blt i t) = true)
    (k : KAt P Γ ops HS t fuel (listed.setIfInBounds i true) ((d, v) :: E) H Q) : KAt P Γ ops HS t (fuel + 1) listed E H Q := fun a w ha hw => by
  simp only [Bool.and_eq_true, Nat.blt_eq] at hs
  obtain ⟨⟨⟨⟨h1, h2⟩, h3⟩, h4⟩, h5⟩ := hs
  have hy : yielded ops a.tmps j = some b := by simp [yielded, hj, ha.get s _ hl]
  exact wpAnyK_first hi (Region.noSelect_spec h1) (fun c a w h => h) (tailB_spec h4) fuel listed a w (Region.free_spec hi h2) (by simpa using h3) h5 (v := v) (.inl ⟨by simp [Region.wanted, hy], fun w hw => h a w ha hw⟩) (hHS w hw) (k _ _ (ha.put d v hn) hw)
theorem KAt.takeN (i : Nat) {j s : Nat} {b c : Bool} {op : Op} {ty : TypeId} {pos : String} {after : Array Edge} (hi : ops[i]? = some ⟨some d, op, ty, pos, after, some (j, b)⟩) (hj : (ops[j]?).bind (·.dst) = some s) (hl : look E s = some (.bool c)) (hc : (c == b) = false) (hn : Nat.blt d Γ.n = true) (hHS : ∀ w, Rep Γ.w0 Γ.S H w → Rep Γ.w0 Γ.S HS w)
    (hs : (Region.noSelect ops && Region.free .any ops listed i && (Region.ready .any ops listed).contains i && tailB .any ops t i && Nat.blt i t) = true)
    (k : KAt P Γ ops HS t fuel (listed.setIfInBounds i true) ((d, undef) :: E) H Q) : KAt P Γ ops HS t (fuel + 1) listed E H Q := fun a w ha hw => by
  simp only [Bool.and_eq_true, Nat.blt_eq] at hs
  obtain ⟨⟨⟨⟨h1, h2⟩, h3⟩, h4⟩, h5⟩ := hs
  have hy : yielded ops a.tmps j = some c := by simp [yielded, hj, ha.get s _ hl]
  exact wpAnyK_first hi (Region.noSelect_spec h1) (fun c a w h => h) (tailB_spec h4) fuel listed a w (Region.free_spec hi h2) (by simpa using h3) h5 (v := undef) (.inr ⟨by simp [Region.wanted, hy]; simpa using hc, rfl⟩) (hHS w hw) (k _ _ (ha.put d undef hn) hw)
theorem KAt.weaken (E' : Env) (hE : Sub E E') (k : KAt P Γ ops HS t fuel listed E' H Q) : KAt P Γ ops HS t fuel listed E H Q := fun a w ha hw => k a w (ha.weaken hE) hw
theorem KAt.drop (j : Nat) (k : KAt P Γ ops HS t fuel listed E (H.eraseIdx j) Q) : KAt P Γ ops HS t fuel listed E H Q := fun a w ha hw => k a w ha (hw.drop (List.eraseIdx_sublist ..))
theorem KAt.split {s : Nat} {b : Bool} (hl : look E s = some (.bool b)) (k1 : b = true → KAt P Γ ops HS t fuel listed ((s, .bool true) :: E) H Q) (k2 : b = false → KAt P Γ ops HS t fuel listed ((s, .bool false) :: E) H Q) : KAt P Γ ops HS t fuel listed E H Q := fun a w ha hw => by
  cases b
  · exact k2 rfl a w (ha.cons hl) hw
  · exact k1 rfl a w (ha.cons hl) hw
/-- What holds behind number i. -/
def KMid (P : Program) (Γ : Ctx) (ops : Array Oper) (HS : List Res) (t fuel : Nat) (listed : Array Bool) (i : Nat) (Q : Exit → Act → World → Prop) (a : Act) (w : World) : Prop :=
  (i < t → Rep Γ.w0 Γ.S HS w) ∧ wpAnyK P .any ops (NoPanic Q) (Rep Γ.w0 Γ.S HS) t fuel (listed.setIfInBounds i true) a w
/-- Only number i may come up. -/
theorem KAt.only (i : Nat) {o : Oper} (hi : ops[i]? = some o) (hr : Region.ready .any ops listed = [i])
    (k : At Γ E H (wpList P ops (Exit.then (KMid P Γ ops HS t fuel listed i Q) (NoPanic Q)) [o])) : KAt P Γ ops HS t (fuel + 1) listed E H Q := fun a w ha hw => by
  refine ⟨(fun h0 => by rw [hr] at h0; cases h0), fun j hj => ?_⟩
  rw [hr] at hj
  obtain rfl := List.mem_singleton.1 hj
  have := k a w ha hw
  unfold wpOp
  simp only [hi]
  unfold wpList at this
  split at this
  · rename_i hw'
    rw [if_pos hw']
    rcases this with h | ⟨h1, h2⟩
    · exact .inl (Oper.wp_then (Mid := KMid P Γ ops HS t fuel listed j Q) (Q := NoPanic Q) (fun a' w' h' => h') h)
    · exact .inr ⟨h1, h2⟩
  · rename_i hw'
    rw [if_neg hw']
    exact this
/-- One of two may come up. -/
theorem KAt.two (i j : Nat) {oi oj : Oper} (hi : ops[i]? = some oi) (hj : ops[j]? = some oj) (hr : Region.ready .any ops listed = [i, j])
    (ki : At Γ E H (wpList P ops (Exit.then (KMid P Γ ops HS t fuel listed i Q) (NoPanic Q)) [oi])) (kj : At Γ E H (wpList P ops (Exit.then (KMid P Γ ops HS t fuel listed j Q) (NoPanic Q)) [oj])) : KAt P Γ ops HS t (fuel + 1) listed E H Q := fun a w ha hw => by
  have key : ∀ (k : Nat) (ok : Oper), ops[k]? = some ok → wpList P ops (Exit.then (KMid P Γ ops HS t fuel listed k Q) (NoPanic Q)) [ok] a w → wpOp P ops (NoPanic Q) k (fun a' w' => (k < t → Rep Γ.w0 Γ.S HS w') ∧ wpAnyK P .any ops (NoPanic Q) (Rep Γ.w0 Γ.S HS) t fuel (listed.setIfInBounds k true) a' w') a w := fun k ok hk this => by
    unfold wpOp
    simp only [hk]
    unfold wpList at this
    split at this
    · rename_i hw'
      rw [if_pos hw']
      rcases this with h | ⟨h1, h2⟩
      · exact .inl (Oper.wp_then (Mid := KMid P Γ ops HS t fuel listed k Q) (Q := NoPanic Q) (fun a' w' h' => h') h)
      · exact .inr ⟨h1, h2⟩
    · rename_i hw'
      rw [if_neg hw']
      exact this
  refine ⟨(fun h0 => by rw [hr] at h0; cases h0), fun k hk => ?_⟩
  rw [hr] at hk
  rcases List.mem_cons.1 hk with rfl | hk
  · exact key _ _ hi (ki a w ha hw)
  · obtain rfl := List.mem_singleton.1 hk
    exact key _ _ hj (kj a w ha hw)
theorem KAt.go (hHS : ∀ w, Rep Γ.w0 Γ.S H w → Rep Γ.w0 Γ.S HS w) (k : KAt P Γ ops HS t fuel (listed.setIfInBounds i true) E H Q) : At Γ E H (Exit.then (KMid P Γ ops HS t fuel listed i Q) (NoPanic Q) .normal) := fun a w ha hw => ⟨fun _ => hHS w hw, k a w ha hw⟩
/-- .. of the tail. -/
theorem KAt.goT (hit : Nat.ble t i = true) (k : KAt P Γ ops HS t fuel (listed.setIfInBounds i true) E H Q) : At Γ E H (Exit.then (KMid P Γ ops HS t fuel listed i Q) (NoPanic Q) .normal) := fun a w ha hw => ⟨fun h => by have := Nat.le_of_ble_eq_true hit; omega, k a w ha hw⟩
theorem KAt.done (hr : Region.ready .any ops listed = []) (k : At Γ E H (Q .normal)) : KAt P Γ ops HS t fuel listed E H Q := fun a w ha hw => by
  cases fuel with
  | zero => exact ⟨hr, k a w ha hw⟩
  | succ n => exact ⟨fun _ => k a w ha hw, (fun i hi => by rw [hr] at hi; cases hi)⟩
end
end Wk
end Go

set_option linter.unusedVariables false
set_option linter.unusedSimpArgs false
namespace Go.Wk
open Go
section
variable {P : Program} {Γ : Ctx} {E E' : Env} {H HS : List Res} {ops : Array Oper} {Q : Exit → Act → World → Prop} {rest : List Oper}
  {d : Nat} {dst : Option Tmp} {ty : TypeId} {pos : String} {after : Array Edge} {x y z : Operand} {v u vy : Value} {g : Option (Nat × Bool)} {ψ : Act → Prop} {t' fuel : Nat} {listed : Array Bool}
theorem KAt.pin (hHS : ∀ w, Rep Γ.w0 Γ.S H w → Rep Γ.w0 Γ.S HS w) (k : KAt P Γ ops HS t' fuel listed E H Q) : KAt P Γ ops HS t' fuel listed E H Q := k
theorem Val.makeFunc {fn : FuncId} (hx : ev E x = some v) : Val P Γ E H ⟨dst, .makeFunc (.func fn) #[] #[x], ty, pos, after, g⟩ (.func (.func fn) #[] #[v]) := fun a w ha _ => by
  simp [execOp, Instr.makeFunc, ha.eval hx]
/-- A call of a closure. -/
theorem At.callV {f : FuncId} {fx : Operand} {cap : Value} {l : List Operand} {vs : List Value} {at_ : Array TypeId} (hf : ev E fx = some (.func (.func f) #[] #[cap])) (hc : ∀ args w, (callFunc f args).run P w = .ok (.enter f args) w) (hv : evs E l = some vs) (hn : Nat.blt d Γ.n = true)
    (h : ∀ w, Rep Γ.w0 Γ.S H w → PureC P f (vs ++ [cap]) v w) (k : At Γ ((d, v) :: E) H (wpList P ops Q rest)) :
    At Γ E H (wpList P ops Q ({ dst := some d, op := .call { callee := .value fx, args := l.toArray, argTypes := at_ }, type := ty, pos, after, guard := none } :: rest)) := fun a w ha hw => by
  refine wpList_plain rfl fun K hK => ?_
  unfold Oper.wp
  have hev := ha.evals hv
  have hr : (execOp a.eval { dst := some d, op := .call { callee := .value fx, args := l.toArray, argTypes := at_ }, type := ty, pos, after, guard := none }).run P w = .ok (.enter f (vs ++ [cap]).toArray) w := by
    have e : l.toArray.map a.eval = vs.toArray := by rw [List.map_toArray, hev]
    simp [execOp, resolve, ha.eval hf, Deferred.ofValue, Sem.run_bind, invoke, hev, hc]
  rw [hr]
  simp only [Oper.upon]
  refine (h w hw).mono fun e w' ⟨he, hm⟩ => ?_
  subst he
  exact hK _ _ (k _ _ (ha.put d v hn) (hw.garbage hm))
/-! ### lists of one cell each -/
theorem At.idxF {α : Type} {f : α → Value} {t el : Nat} {l : List α} {k : IntKind} {j : Int} (h : Rd Γ.w0 v 1 l.length (l.map f)) (hu : P.underlying t = some (.slice el)) (hs : ∀ w, (sizeOf el).run P w = .ok 1 w) (hx : ev E x = some v) (hy : ev E y = some (.int k j)) (h0 : 0 ≤ j) (h1 : j < l.length)
    (hg : g = none) (hn : Nat.blt d Γ.n = true)
    (c : ∀ b o q, l[j.toNat]? = some q → Γ.w0.cell? ⟨b, o, none⟩ = some (f q) → At Γ ((d, .pointer (some ⟨b, o, none⟩)) :: E) H (wpList P ops Q rest)) :
    At Γ E H (wpList P ops Q ({ dst := some d, op := .indexAddr t x y, type := ty, pos, after, guard := g } :: rest)) :=
  At.idxRd h hu hs hx hy h0 h1 hg hn fun b o hc => by
    have hq : l[j.toNat]? = some (l[j.toNat]'(by omega)) := List.getElem?_eq_getElem _
    exact c b o _ hq (hc 0 _ (by rw [Nat.mul_one, Nat.add_zero, List.getElem?_map, hq]; rfl))
/-! ### lists of pairs -/
def prC (l : List (Int × BitVec 64)) : List Value := l.flatMap fun c => [.int .i64 c.1, b64 c.2]
theorem prC_append (a b : List (Int × BitVec 64)) : prC (a ++ b) = prC a ++ prC b := by simp [prC]
theorem prC_length (a : List (Int × BitVec 64)) : (prC a).length = a.length * 2 := by induction a with
  | nil => rfl
  | cons c a ih => simp only [prC, List.flatMap_cons, List.length_append, List.length_cons] at *; rw [ih]; simp; omega
theorem prC_at : ∀ {L : List (Int × BitVec 64)} {j : Nat} {c : Int × BitVec 64}, L[j]? = some c → (prC L)[j * 2]? = some (.int .i64 c.1) ∧ (prC L)[j * 2 + 1]? = some (b64 c.2)
  | d :: L, 0, c, h => by
    have : d = c := by simpa using h
    subst this; exact ⟨rfl, rfl⟩
  | d :: L, j + 1, c, h => by
    have h' : L[j]? = some c := by simpa using h
    have := prC_at h'
    rw [show (j + 1) * 2 = j * 2 + 1 + 1 by omega]
    exact this
theorem prC_one (l : List (Int × BitVec 64)) : ∀ u ∈ prC l, u.oneCell' = true := fun u hu => by
  unfold prC at hu
  obtain ⟨c, _, hc⟩ := List.mem_flatMap.1 hu
  rcases List.mem_cons.1 hc with rfl | hc
  · rfl
  · obtain rfl := List.mem_singleton.1 hc
    rfl
theorem prC_take : ∀ (l : List (Int × BitVec 64)) (k : Nat), prC (l.take k) = (prC l).take (k * 2)
  | [], k => by simp [prC]
  | c :: l, 0 => by simp [prC]
  | c :: l, k + 1 => by
    rw [List.take_succ_cons, show (k + 1) * 2 = k * 2 + 1 + 1 by omega]
    simp only [prC, List.flatMap_cons, List.cons_append, List.nil_append, List.take_succ_cons]
    have := prC_take l k
    unfold prC at this
    rw [this]
abbrev RdP (w : World) (v : Value) (l : List (Int × BitVec 64)) : Prop := Rd w v 2 l.length (prC l)
abbrev prow (e : Nat) (v : Value) (l : List (Int × BitVec 64)) : Res := rowR v e 2 l.length (prC l)
theorem At.idxP {t el : Nat} {l : List (Int × BitVec 64)} {k : IntKind} {j : Int} (h : RdP Γ.w0 v l) (hu : P.underlying t = some (.slice el)) (hs : ∀ w, (sizeOf el).run P w = .ok 2 w) (hx : ev E x = some v) (hy : ev E y = some (.int k j)) (h0 : 0 ≤ j) (h1 : j < l.length)
    (hg : g = none) (hn : Nat.blt d Γ.n = true)
    (c : ∀ b o q, l[j.toNat]? = some q → Γ.w0.cell? ⟨b, o, none⟩ = some (.int .i64 q.1) → Γ.w0.cell? ⟨b, o + 1, none⟩ = some (b64 q.2) → At Γ ((d, .pointer (some ⟨b, o, none⟩)) :: E) H (wpList P ops Q rest)) :
    At Γ E H (wpList P ops Q ({ dst := some d, op := .indexAddr t x y, type := ty, pos, after, guard := g } :: rest)) :=
  At.idxRd h hu hs hx hy h0 h1 hg hn fun b o hc => by
    have hq : l[j.toNat]? = some (l[j.toNat]'(by omega)) := List.getElem?_eq_getElem _
    have hp := prC_at hq
    exact c b o _ hq (hc 0 _ hp.1) (hc 1 _ hp.2)
theorem QAt.idxP {t el : Nat} {l : List (Int × BitVec 64)} {k : IntKind} {j : Int} (h : RdP Γ.w0 v l) (hu : P.underlying t = some (.slice el)) (hs : ∀ w, (sizeOf el).run P w = .ok 2 w) (hx : ev E x = some v) (hy : ev E y = some (.int k j)) (h0 : 0 ≤ j) (h1 : j < l.length)
    (hg : g = none) (hn : Nat.blt d Γ.n = true)
    (c : ∀ b o q, l[j.toNat]? = some q → Γ.w0.cell? ⟨b, o, none⟩ = some (.int .i64 q.1) → Γ.w0.cell? ⟨b, o + 1, none⟩ = some (b64 q.2) → QAt P Γ ops ((d, .pointer (some ⟨b, o, none⟩)) :: E) H rest ψ) :
    QAt P Γ ops E H ({ dst := some d, op := .indexAddr t x y, type := ty, pos, after, guard := g } :: rest) ψ :=
  QAt.idxRd h hu hs hx hy h0 h1 hg hn fun b o hc => by
    have hq : l[j.toNat]? = some (l[j.toNat]'(by omega)) := List.getElem?_eq_getElem _
    have hp := prC_at hq
    exact c b o _ hq (hc 0 _ hp.1) (hc 1 _ hp.2)
theorem Val.loadPair {t b o : Nat} {q : Int × BitVec 64} (hA : ∀ w, (isAgg t).run P w = .ok true w) (hs : ∀ w, (sizeOf t).run P w = .ok 2 w) (hx : ev E x = some (.pointer (some ⟨b, o, none⟩))) (h0 : Γ.w0.cell? ⟨b, o, none⟩ = some (.int .i64 q.1)) (h1 : Γ.w0.cell? ⟨b, o + 1, none⟩ = some (b64 q.2)) (hS : ¬ Γ.S b) :
    Val P Γ E H ⟨dst, .load t x, ty, pos, after, g⟩ (.agg #[.int .i64 q.1, b64 q.2]) :=
  Val.loadOldPart (vs := [.int .i64 q.1, b64 q.2]) hA hs hx rfl (fun j u hj => by
    match j, hj with
    | 0, hj => (obtain rfl := Option.some.inj hj; exact h0)
    | 1, hj => (obtain rfl := Option.some.inj hj; exact h1)) hS
theorem At.rowNilP (e : Nat) {φ : Act → World → Prop} (k : At Γ E (prow e (.slice none 0 0) [] :: H) φ) : At Γ E H φ := At.rowNil e 2 k
theorem prow_snoc (e : Nat) (v : Value) (l : List (Int × BitVec 64)) (a : Int) (x : BitVec 64) : rowR v e 2 (l.length + 1) (prC l ++ [.int .i64 a, b64 x]) = prow e v (l ++ [(a, x)]) := by
  unfold prow; rw [prC_append, List.length_append]; rfl
/-- A pair behind a row. -/
theorem At.appendP1 {i j t e by_ b U : Nat} {ti : TypeInfo} {z : Value} {l : List (Int × BitVec 64)} {a : Int} {w' : BitVec 64} (ht : P.underlying t = some (.slice e)) (hti : P.info? e = some ti) (hz : ti.zero = some z) (hsize : ti.size = 2) (hby : ti.bytes = by_) (hzs : z.cells.size = 2)
    (hx : ev E x = some v) (hy : ev E y = some (.slice (some ⟨b, 0, none⟩) 1 1)) (hi : H[i]? = some (rowR v e 2 l.length (prC l))) (hj : H[j]? = some (blk b U [.int .i64 a, b64 w'])) (h63 : (l.length + 1) * by_ ≤ 140737488355328) (h64 : l.length + 1 ≤ 140737488355328) (hn : Nat.blt d Γ.n = true)
    (k : ∀ v', At Γ ((d, v') :: E) (H.set i (prow e v' (l ++ [(a, w')]))) (wpList P ops Q rest)) :
    At Γ E H (wpList P ops Q ({ dst := some d, op := .call { callee := .builtin .append, args := #[x, y], argTypes := #[t, t] }, type := ty, pos, after, guard := none } :: rest)) :=
  At.append (i := i) (ys := [.int .i64 a, b64 w']) ht hti hz hsize hby hzs rfl hx hy hi rfl (fun w hw j' u hj' => by rw [Nat.zero_add]; exact ((hw.blk hj).cell j').trans hj') (by simp [Value.oneCell']) h63 h64 hn fun v' => by
    have := k v'
    rw [← prow_snoc] at this
    exact this
theorem At.appendRdP {i t e by_ : Nat} {ti : TypeInfo} {z : Value} {l m : List (Int × BitVec 64)} (ht : P.underlying t = some (.slice e)) (hti : P.info? e = some ti) (hz : ti.zero = some z) (hsize : ti.size = 2) (hby : ti.bytes = by_) (hzs : z.cells.size = 2)
    (hx : ev E x = some v) (hy : ev E y = some vy) (hi : H[i]? = some (rowR v e 2 l.length (prC l))) (hr : RdP Γ.w0 vy m) (ho : Off vy (prC m) Γ.S) (h63 : (l.length + m.length) * by_ ≤ 140737488355328) (h64 : l.length + m.length ≤ 140737488355328) (hn : Nat.blt d Γ.n = true)
    (k : ∀ v', At Γ ((d, v') :: E) (H.set i (prow e v' (l ++ m))) (wpList P ops Q rest)) :
    At Γ E H (wpList P ops Q ({ dst := some d, op := .call { callee := .builtin .append, args := #[x, y], argTypes := #[t, t] }, type := ty, pos, after, guard := none } :: rest)) :=
  At.appendRd ht hti hz hsize hby hzs rfl hx hy hi hr ho (prC_one m) h63 h64 hn fun v' => by
    have := k v'
    simpa only [prow, prC_append, List.length_append] using this
/-- The first pairs of a list. -/
theorem At.cutP {t el : Nat} {L : List (Int × BitVec 64)} {hi : Option Operand} (h : Nat) (hr : RdP Γ.w0 v L) (hu : P.underlying t = some (.slice el)) (hs : ∀ w, (sizeOf el).run P w = .ok 2 w) (hx : ev E x = some v) (hh : Bd E hi L.length h) (h2 : h ≤ L.length)
    (hg : g = none) (hn : Nat.blt d Γ.n = true) (k : ∀ v', RdP Γ.w0 v' (L.take h) → At Γ ((d, v') :: E) H (wpList P ops Q rest)) :
    At Γ E H (wpList P ops Q ({ dst := some d, op := .slice t x .none hi .none, type := ty, pos, after, guard := g } :: rest)) := by
  have hr0 := hr
  obtain ⟨A, c, rfl, _⟩ := hr
  refine At.val (Val.cutRd (lo := .none) (l := 0) hr0 hu hs hx rfl hh (Nat.zero_le _) h2) hg rfl hn (k _ ?_)
  have := Rd.cut hr0 (Nat.zero_le h) h2
  simp only [Nat.zero_mul, List.drop_zero, Nat.sub_zero] at this ⊢
  unfold RdP
  rw [prC_take, List.length_take, Nat.min_eq_left h2]
  exact this
/-! ### words -/
abbrev wrow (e : Nat) (v : Value) (l : List (BitVec 64)) : Res := rowR v e 1 l.length (l.map b64)
abbrev RdW (w : World) (v : Value) (l : List (BitVec 64)) : Prop := Rd w v 1 l.length (l.map b64)
theorem At.rowNilW (e : Nat) {φ : Act → World → Prop} (k : At Γ E (wrow e (.slice none 0 0) [] :: H) φ) : At Γ E H φ := At.rowNil e 1 k
theorem At.appendWs {i j t e by_ b U m : Nat} {ti : TypeInfo} {z : Value} {l ms : List (BitVec 64)} (ht : P.underlying t = some (.slice e)) (hti : P.info? e = some ti) (hz : ti.zero = some z) (hsize : ti.size = 1) (hby : ti.bytes = by_) (hzs : z.cells.size = 1)
    (hx : ev E x = some v) (hy : ev E y = some (.slice (some ⟨b, 0, none⟩) m m)) (hi : H[i]? = some (rowR v e 1 l.length (l.map b64))) (hm : ms.length = m) (hj : H[j]? = some (blk b U (ms.map b64))) (h63 : (l.length + m) * by_ ≤ 140737488355328) (h64 : l.length + m ≤ 140737488355328) (hn : Nat.blt d Γ.n = true)
    (k : ∀ v', At Γ ((d, v') :: E) (H.set i (wrow e v' (l ++ ms))) (wpList P ops Q rest)) :
    At Γ E H (wpList P ops Q ({ dst := some d, op := .call { callee := .builtin .append, args := #[x, y], argTypes := #[t, t] }, type := ty, pos, after, guard := none } :: rest)) :=
  At.append (i := i) (ys := ms.map b64) ht hti hz hsize hby hzs rfl hx hy hi (by rw [List.length_map, hm, Nat.mul_one]) (fun w hw j' u hj' => by rw [Nat.zero_add]; exact ((hw.blk hj).cell j').trans hj') (fun u hu => by obtain ⟨c, _, rfl⟩ := List.mem_map.1 hu; rfl) h63 h64 hn fun v' => by
    have := k v'
    unfold wrow at this
    rw [List.map_append, List.length_append, hm] at this
    exact this
theorem Holds.words {w : World} {b T n : Nat} {l : List (BitVec 64)} (h : Holds w b T (l.map b64)) (hn : l.length = n) : Rd w (.slice (some ⟨b, 0, none⟩) n n) 1 l.length (l.map b64) := by
  subst hn
  refine ⟨_, _, rfl, fun j u hj => ⟨b, 0, rfl, by rw [Nat.zero_add]; exact (h.cell j).trans hj⟩, by simp, Nat.le_refl _, (fun e => by cases e), (fun _ a e => by cases e; rfl)⟩
/-! ### copies into a row -/
theorem storeCells_row {w0 : World} {S : Nat → Prop} {i e sz n : Nat} : ∀ (vs : List Value) (o j : Nat) (xs : List Value) (H : List Res) (w : World), Rep w0 S H w → H[i]? = some (rowR v e sz n xs) → o + j + vs.length ≤ xs.length → (∀ u ∈ vs, u.oneCell' = true) →
    ∃ w', (storeCells ⟨rowB v, o, none⟩ vs j).run P w = .ok () w' ∧ Rep w0 S (H.set i (rowR v e sz n (putAt xs (o + j) vs))) w' := by
  intro vs
  induction vs with
  | nil =>
    intro o j xs H w hw hi ho _
    refine ⟨w, by simp [storeCells], ?_⟩
    have e1 : putAt xs (o + j) [] = xs := by simp [putAt]
    have e2 : H.set i (rowR v e sz n xs) = H := by
      apply List.ext_getElem?
      intro q
      rw [List.getElem?_set]
      split
      · rename_i e; subst e
        split
        · rw [hi]
        · rename_i hn; rw [List.getElem?_eq_none (by omega)]
      · rfl
    rw [e1, e2]; exact hw
  | cons u vs ih =>
    intro o j xs H w hw hi ho h1
    simp only [List.length_cons] at ho
    have hlt : o + j < xs.length := by omega
    have hown : w.ownsRow 0 e sz v n xs := hw.row hi
    have hc := row_cell hown (List.getElem?_eq_getElem hlt)
    have hf := row_frozen hown (List.getElem?_eq_getElem hlt)
    have hset : Rep w0 S (H.set i (rowR v e sz n (xs.set (o + j) u))) (w.setCell ⟨rowB v, o + j, none⟩ u) := by
      refine hw.change (r' := rowR v e sz n (xs.set (o + j) u)) hi ((Mod.setCell w _ _).mono fun b hb => ?_) (row_set hown hlt u) (fun b hb => .inl hb)
      rcases hown.2 with ⟨rfl, rfl⟩ | ⟨c, cap, cur, rfl, _⟩
      · have := hown.1; simp at this; rw [this] at hlt; simp at hlt
      · simp only [rowR, rowB, Value.ownBlock, Option.getD_some] at hb ⊢
        rw [hb]
    have hi' : (H.set i (rowR v e sz n (xs.set (o + j) u)))[i]? = some (rowR v e sz n (xs.set (o + j) u)) := by
      rw [List.getElem?_set]; simp; exact (List.getElem?_eq_some_iff.1 hi).1
    obtain ⟨w', hr, hw'⟩ := ih o (j + 1) _ _ _ hset hi' (by simp; omega) (fun u' hu => h1 u' (List.mem_cons_of_mem _ hu))
    refine ⟨w', ?_, ?_⟩
    · have h1v := h1 u (List.mem_cons_self ..)
      have hadd : (⟨rowB v, o, none⟩ : Addr).add j = ⟨rowB v, o + j, none⟩ := by unfold Addr.add; split <;> simp_all
      simp only [storeCells, Sem.run_bind, hadd]
      have : (store ⟨rowB v, o + j, none⟩ u).run P w = .ok () (w.setCell ⟨rowB v, o + j, none⟩ u) := by
        cases u <;> simp_all [store, Sem.run, Value.oneCell']
      rw [this, Result.andThen_ok, hr]
    · rw [List.set_set] at hw'
      have e1 : putAt (xs.set (o + j) u) (o + (j + 1)) vs = putAt xs (o + j) (u :: vs) := by
        unfold putAt
        rw [List.length_cons, List.drop_set_of_lt (by omega), show o + (j + 1) + vs.length = o + j + (vs.length + 1) by omega, show o + (j + 1) = (o + j) + 1 by omega, List.take_add_one, List.take_set_of_le (Nat.le_refl _), List.getElem?_set]
        simp [hlt]
      rw [e1] at hw'
      exact hw'
/-- A row that isn't empty is a block. -/
theorem At.rowSome {i e sz n : Nat} {xs : List Value} {φ : Act → World → Prop} (hi : H[i]? = some (rowR v e sz n xs)) (hn : 0 < n) (k : ∀ b c, v = .slice (some ⟨b, 0, none⟩) n c → At Γ E H φ) : At Γ E H φ := fun a w ha hw => by
  rcases (hw.row hi).2 with ⟨_, h⟩ | ⟨b, cap, cur, h, _⟩
  · omega
  · exact k b cap h a w ha hw
theorem At.copyToRow {i j dT sT e e' sz N C m c o b n : Nat} {xs ys : List Value} (ht : P.underlying dT = some (.slice e)) (hz : ∀ w, (sizeOf e).run P w = .ok 1 w)
    (hx : ev E x = some (.slice (some ⟨b, o, none⟩) m c)) (hy : ev E y = some u) (hi : H[i]? = some (rowR (.slice (some ⟨b, 0, none⟩) N C) e' sz N xs)) (hj : H[j]? = some (rowR u e' 1 n ys)) (hn0 : 0 < n) (hm : n ≤ m) (ho : o + n ≤ xs.length) (h1 : ∀ u ∈ ys, u.oneCell' = true) (hn : Nat.blt d Γ.n = true)
    (k : At Γ ((d, .int .i64 n) :: E) (H.set i (rowR (.slice (some ⟨b, 0, none⟩) N C) e' sz N (putAt xs o ys))) (wpList P ops Q rest)) :
    At Γ E H (wpList P ops Q ({ dst := some d, op := .call { callee := .builtin .copy, args := #[x, y], argTypes := #[dT, sT] }, type := ty, pos, after, guard := none } :: rest)) :=
  At.run rfl rfl hn fun a w ha hw => by
    have hsrc := hw.row hj
    have hl : ys.length = n := by have := hsrc.1; omega
    obtain ⟨w', hr, hw'⟩ := storeCells_row (P := P) ys o 0 xs H w hw hi (by omega) h1
    rcases hsrc.2 with ⟨_, h⟩ | ⟨b', cap', cur', rfl, _⟩
    · omega
    have hld := run_loadCells_list (P := P) w ⟨b', 0, none⟩ ys (fun j u hu => by
      have := row_cell hsrc (q := j) hu
      rw [Addr.add_off, Nat.zero_add]; exact this)
    refine ⟨.int .i64 n, w', _, ?_, hw', k⟩
    have h0 : (Builtin.copy_ #[dT, sT] ty #[.slice (some ⟨b, o, none⟩) m c, .slice (some ⟨b', 0, none⟩) n cap']).run P w = .ok (goInt n) w' := by
      subst hl
      have hr' : (storeCells ⟨b, o, none⟩ ys 0).run P w = .ok () w' := hr
      have hmin : Nat.min ys.length m = ys.length := Nat.min_eq_left hm
      have hmin' : min ys.length m = ys.length := Nat.min_eq_left hm
      have hmin2 : min m ys.length = ys.length := Nat.min_eq_right hm
      simp [Builtin.copy_, run_underlying ht, Builtin.lenOf, Builtin.firstCells, hz, hmin, hmin', hmin2, hld, hr', hm]
    simp [execOp, resolve, invoke, builtin, ha.eval hx, ha.eval hy, Sem.run_bind, h0, goInt]
theorem putAt_map {l m : List UInt8} (o : Nat) : putAt (l.map bv) o (m.map bv) = (l.take o ++ m ++ l.drop (o + m.length)).map bv := by
  unfold putAt; simp [List.map_take, List.map_drop]
theorem At.copyRowB {i j dT sT e e' N C m c o b : Nat} {l s : List UInt8} (ht : P.underlying dT = some (.slice e)) (hz : ∀ w, (sizeOf e).run P w = .ok 1 w)
    (hx : ev E x = some (.slice (some ⟨b, o, none⟩) m c)) (hy : ev E y = some u) (hi : H[i]? = some (rowR (.slice (some ⟨b, 0, none⟩) N C) e' 1 N (l.map bv))) (hj : H[j]? = some (rowR u e' 1 s.length (s.map bv))) (hn0 : 0 < s.length) (hm : s.length ≤ m) (ho : o + s.length ≤ l.length) (hn : Nat.blt d Γ.n = true)
    (k : At Γ ((d, .int .i64 s.length) :: E) (H.set i (rowR (.slice (some ⟨b, 0, none⟩) N C) e' 1 N ((l.take o ++ s ++ l.drop (o + s.length)).map bv))) (wpList P ops Q rest)) :
    At Γ E H (wpList P ops Q ({ dst := some d, op := .call { callee := .builtin .copy, args := #[x, y], argTypes := #[dT, sT] }, type := ty, pos, after, guard := none } :: rest)) :=
  At.copyToRow (u := u) ht hz hx hy hi hj hn0 hm (by rw [List.length_map]; exact ho) (bv_one s) hn (by rw [putAt_map]; exact k)
/-- A block of bytes behind a row. -/
theorem At.appendBlkB {i j t e by_ b U n c : Nat} {ti : TypeInfo} {z : Value} {l m : List UInt8} (ht : P.underlying t = some (.slice e)) (hti : P.info? e = some ti) (hz : ti.zero = some z) (hsize : ti.size = 1) (hby : ti.bytes = by_) (hzs : z.cells.size = 1)
    (hx : ev E x = some v) (hy : ev E y = some (.slice (some ⟨b, 0, none⟩) n c)) (hi : H[i]? = some (rowR v e 1 l.length (l.map bv))) (hj : H[j]? = some (blk b U (m.map bv))) (hm : m.length = n) (h63 : (l.length + n) * by_ ≤ 140737488355328) (h64 : l.length + n ≤ 140737488355328) (hn : Nat.blt d Γ.n = true)
    (k : ∀ v', At Γ ((d, v') :: E) (H.set i (brow e v' (l ++ m))) (wpList P ops Q rest)) :
    At Γ E H (wpList P ops Q ({ dst := some d, op := .call { callee := .builtin .append, args := #[x, y], argTypes := #[t, t] }, type := ty, pos, after, guard := none } :: rest)) :=
  At.append (i := i) (ys := m.map bv) ht hti hz hsize hby hzs rfl hx hy hi (by rw [List.length_map, hm, Nat.mul_one]) (fun w hw j' u hj' => by rw [Nat.zero_add]; exact ((hw.blk hj).cell j').trans hj') (bv_one m) h63 h64 hn fun v' => by
    have := k v'
    unfold brow at this
    rw [List.map_append, List.length_append, hm] at this
    exact this
theorem Mod.cell {w w' : World} (h : Mod (fun _ => False) w w') {p : Addr} {v : Value} (hc : w.cell? p = some v) : w'.cell? p = some v := by
  have hr : Rep w (fun _ => False) [] w' := ⟨by simp, by simp, by simp, h⟩
  exact hr.oldCell hc (fun h => h)
theorem At.rowOne {i e sz n : Nat} {xs : List Value} {φ : Act → World → Prop} (hi : H[i]? = some (rowR v e sz n xs)) (k : v.oneCell' = true → At Γ E H φ) : At Γ E H φ := fun a w ha hw => by
  rcases (hw.row hi).2 with ⟨h, _⟩ | ⟨b, cap, cur, h, _⟩ <;> exact k (by rw [h]; rfl) a w ha hw
theorem Rep.f0 {w0 w : World} {H : List Res} (h : Rep w0 (fun _ => False) H w) : Rep w0 (feet []) H w := by
  have e : feet [] = fun _ => False := funext fun b => by simp [feet]
  rw [e]; exact h
theorem Rep.nilRow {w0 w : World} {S : Nat → Prop} {H : List Res} (h : Rep w0 S H w) (e sz : Nat) : Rep w0 S (rowR (.slice none 0 0) e sz 0 [] :: H) w :=
  h.new (Mod.refl _ _) (World.ownsRow_nil w 0 e sz) (fun b hb => by simp [rowR, Value.ownBlock] at hb)
theorem Rep.newBlk {w0 w : World} {H : List Res} {i b T L : Nat} {cs : List Value} (h : Rep w0 (fun _ => False) H w) (hi : H[i]? = some (Wk.blk b T cs)) (hL : L < w0.heap.size) : L ≠ b := fun e => by
  rcases h.mine _ (List.mem_of_getElem? hi) b rfl with h1 | h1
  · omega
  · exact h1
theorem RdB.some {w : World} {v : Value} {l : List UInt8} (h : RdB w v l) (h0 : 0 < l.length) : ∃ L o c, v = .slice (some ⟨L, o, none⟩) l.length c ∧ Bytes w (some ⟨L, o, none⟩) l ∧ l.length ≤ c ∧ L < w.heap.size := by
  obtain ⟨A, c, h1, h2, h3, h4, h5⟩ := h.bytes
  obtain ⟨b, o, e, hc⟩ := h2 0 _ (List.getElem?_eq_getElem h0)
  subst e
  exact ⟨b, o, c, h1, h2, h3, block_lt_of_cell hc⟩
end
end Go.Wk
