/- Parts of the proof, joined: see the law's text. -/
import Derived.Test.YtpihenmdkoojdaaDoorYc1
import Derived.Maps.RangeRun
import Derived.ArgAppend
set_option linter.unusedVariables false
set_option linter.unusedSimpArgs false
namespace Go.Wk
open Go
section
variable {P : Program} {Γ : Ctx} {E E' : Env} {H HS : List Res} {ops : Array Oper} {Q : Exit → Act → World → Prop} {rest : List Oper}
  {d : Nat} {dst : Option Tmp} {ty : TypeId} {pos : String} {after : Array Edge} {x y z : Operand} {v u vy : Value} {g : Option (Nat × Bool)} {ψ : Act → Prop} {t' fuel : Nat} {listed : Array Bool}
/-! ### lists of pairs -/
def prS (l : List (Int × Int)) : List Value := l.flatMap fun c => [.int .i64 c.1, .int .i64 c.2]
theorem prS_append (a b : List (Int × Int)) : prS (a ++ b) = prS a ++ prS b := by simp [prS]
theorem prS_length (a : List (Int × Int)) : (prS a).length = a.length * 2 := by induction a with
  | nil => rfl
  | cons c a ih => simp only [prS, List.flatMap_cons, List.length_append, List.length_cons] at *; rw [ih]; simp; omega
theorem prS_at : ∀ {L : List (Int × Int)} {j : Nat} {c : Int × Int}, L[j]? = some c → (prS L)[j * 2]? = some (.int .i64 c.1) ∧ (prS L)[j * 2 + 1]? = some (.int .i64 c.2)
  | d :: L, 0, c, h => by
    have : d = c := by simpa using h
    subst this; exact ⟨rfl, rfl⟩
  | d :: L, j + 1, c, h => by
    have h' : L[j]? = some c := by simpa using h
    have := prS_at h'
    rw [show (j + 1) * 2 = j * 2 + 1 + 1 by omega]
    exact this
theorem prS_one (l : List (Int × Int)) : ∀ u ∈ prS l, u.oneCell' = true := fun u hu => by
  unfold prS at hu
  obtain ⟨c, _, hc⟩ := List.mem_flatMap.1 hu
  rcases List.mem_cons.1 hc with rfl | hc
  · rfl
  · obtain rfl := List.mem_singleton.1 hc
    rfl
theorem prS_take : ∀ (l : List (Int × Int)) (k : Nat), prS (l.take k) = (prS l).take (k * 2)
  | [], k => by simp [prS]
  | c :: l, 0 => by simp [prS]
  | c :: l, k + 1 => by
    rw [List.take_succ_cons, show (k + 1) * 2 = k * 2 + 1 + 1 by omega]
    simp only [prS, List.flatMap_cons, List.cons_append, List.nil_append, List.take_succ_cons]
    have := prS_take l k
    unfold prS at this
    rw [this]
abbrev RdS (w : World) (v : Value) (l : List (Int × Int)) : Prop := Rd w v 2 l.length (prS l)
abbrev srow (e : Nat) (v : Value) (l : List (Int × Int)) : Res := rowR v e 2 l.length (prS l)
theorem At.idxS {t el : Nat} {l : List (Int × Int)} {k : IntKind} {j : Int} (h : RdS Γ.w0 v l) (hu : P.underlying t = some (.slice el)) (hs : ∀ w, (sizeOf el).run P w = .ok 2 w) (hx : ev E x = some v) (hy : ev E y = some (.int k j)) (h0 : 0 ≤ j) (h1 : j < l.length)
    (hg : g = none) (hn : Nat.blt d Γ.n = true)
    (c : ∀ b o q, l[j.toNat]? = some q → Γ.w0.cell? ⟨b, o, none⟩ = some (.int .i64 q.1) → Γ.w0.cell? ⟨b, o + 1, none⟩ = some (.int .i64 q.2) → At Γ ((d, .pointer (some ⟨b, o, none⟩)) :: E) H (wpList P ops Q rest)) :
    At Γ E H (wpList P ops Q ({ dst := some d, op := .indexAddr t x y, type := ty, pos, after, guard := g } :: rest)) :=
  At.idxRd h hu hs hx hy h0 h1 hg hn fun b o hc => by
    have hq : l[j.toNat]? = some (l[j.toNat]'(by omega)) := List.getElem?_eq_getElem _
    have hp := prS_at hq
    exact c b o _ hq (hc 0 _ hp.1) (hc 1 _ hp.2)
theorem QAt.idxS {t el : Nat} {l : List (Int × Int)} {k : IntKind} {j : Int} (h : RdS Γ.w0 v l) (hu : P.underlying t = some (.slice el)) (hs : ∀ w, (sizeOf el).run P w = .ok 2 w) (hx : ev E x = some v) (hy : ev E y = some (.int k j)) (h0 : 0 ≤ j) (h1 : j < l.length)
    (hg : g = none) (hn : Nat.blt d Γ.n = true)
    (c : ∀ b o q, l[j.toNat]? = some q → Γ.w0.cell? ⟨b, o, none⟩ = some (.int .i64 q.1) → Γ.w0.cell? ⟨b, o + 1, none⟩ = some (.int .i64 q.2) → QAt P Γ ops ((d, .pointer (some ⟨b, o, none⟩)) :: E) H rest ψ) :
    QAt P Γ ops E H ({ dst := some d, op := .indexAddr t x y, type := ty, pos, after, guard := g } :: rest) ψ :=
  QAt.idxRd h hu hs hx hy h0 h1 hg hn fun b o hc => by
    have hq : l[j.toNat]? = some (l[j.toNat]'(by omega)) := List.getElem?_eq_getElem _
    have hp := prS_at hq
    exact c b o _ hq (hc 0 _ hp.1) (hc 1 _ hp.2)
theorem Val.loadSpan {t b o : Nat} {q : Int × Int} (hA : ∀ w, (isAgg t).run P w = .ok true w) (hs : ∀ w, (sizeOf t).run P w = .ok 2 w) (hx : ev E x = some (.pointer (some ⟨b, o, none⟩))) (h0 : Γ.w0.cell? ⟨b, o, none⟩ = some (.int .i64 q.1)) (h1 : Γ.w0.cell? ⟨b, o + 1, none⟩ = some (.int .i64 q.2)) (hS : ¬ Γ.S b) :
    Val P Γ E H ⟨dst, .load t x, ty, pos, after, g⟩ (.agg #[.int .i64 q.1, .int .i64 q.2]) :=
  Val.loadOldPart (vs := [.int .i64 q.1, .int .i64 q.2]) hA hs hx rfl (fun j u hj => by
    match j, hj with
    | 0, hj => (obtain rfl := Option.some.inj hj; exact h0)
    | 1, hj => (obtain rfl := Option.some.inj hj; exact h1)) hS
theorem At.rowNilS (e : Nat) {φ : Act → World → Prop} (k : At Γ E (srow e (.slice none 0 0) [] :: H) φ) : At Γ E H φ := At.rowNil e 2 k
theorem srow_snoc (e : Nat) (v : Value) (l : List (Int × Int)) (a : Int) (x : Int) : rowR v e 2 (l.length + 1) (prS l ++ [.int .i64 a, .int .i64 x]) = srow e v (l ++ [(a, x)]) := by
  unfold srow; rw [prS_append, List.length_append]; rfl
/-- A pair behind a row. -/
theorem At.appendS1 {i j t e by_ b U : Nat} {ti : TypeInfo} {z : Value} {l : List (Int × Int)} {a : Int} {w' : Int} (ht : P.underlying t = some (.slice e)) (hti : P.info? e = some ti) (hz : ti.zero = some z) (hsize : ti.size = 2) (hby : ti.bytes = by_) (hzs : z.cells.size = 2)
    (hx : ev E x = some v) (hy : ev E y = some (.slice (some ⟨b, 0, none⟩) 1 1)) (hi : H[i]? = some (rowR v e 2 l.length (prS l))) (hj : H[j]? = some (blk b U [.int .i64 a, .int .i64 w'])) (h63 : (l.length + 1) * by_ ≤ 140737488355328) (h64 : l.length + 1 ≤ 140737488355328) (hn : Nat.blt d Γ.n = true)
    (k : ∀ v', At Γ ((d, v') :: E) (H.set i (srow e v' (l ++ [(a, w')]))) (wpList P ops Q rest)) :
    At Γ E H (wpList P ops Q ({ dst := some d, op := .call { callee := .builtin .append, args := #[x, y], argTypes := #[t, t] }, type := ty, pos, after, guard := none } :: rest)) :=
  At.append (i := i) (ys := [.int .i64 a, .int .i64 w']) ht hti hz hsize hby hzs rfl hx hy hi rfl (fun w hw j' u hj' => by rw [Nat.zero_add]; exact ((hw.blk hj).cell j').trans hj') (by simp [Value.oneCell']) h63 h64 hn fun v' => by
    have := k v'
    rw [← srow_snoc] at this
    exact this
theorem prS_drop (l : List (Int × Int)) (k : Nat) (hk : k ≤ l.length) : (prS l).drop (k * 2) = prS (l.drop k) := by
  have h : prS l = prS (l.take k) ++ prS (l.drop k) := by rw [← prS_append, List.take_append_drop]
  have hl : (prS (l.take k)).length = k * 2 := by rw [prS_length, List.length_take, Nat.min_eq_left hk]
  rw [h, ← hl, List.drop_left]
end
end Go.Wk
set_option linter.unusedVariables false
set_option linter.unusedSimpArgs false
namespace Go.Proofs.YtpihenmdkoojdaaDoor
open Go Go.Wk
end Go.Proofs.YtpihenmdkoojdaaDoor
set_option linter.unusedVariables false
set_option linter.unusedSimpArgs false
namespace Go.Wk
open Go
def lineL (b : List UInt8) : List UInt8 := closeL (b ++ zs (64 - b.length))
def superB (p i c : Nat) : List UInt8 := [70, 85, 82, 82, 79, 87, 48, 49] ++ le 4 p ++ le 4 i ++ le 4 c
end Go.Wk
set_option linter.unusedVariables false
set_option linter.unusedSimpArgs false
namespace Go.Wk
open Go
def num (l : List UInt8) (at_ n : Nat) : Nat := fromLe ((l.drop at_).take n)
theorem fromLe_append : ∀ (a b : List UInt8), fromLe (a ++ b) = fromLe a + 256 ^ a.length * fromLe b
  | [], b => by simp [fromLe]
  | c :: a, b => by
    simp only [List.cons_append, fromLe, fromLe_append a b, List.length_cons, Nat.pow_succ]
    rw [Nat.mul_add, Nat.add_assoc, ← Nat.mul_assoc, Nat.mul_comm 256 (256 ^ a.length)]
theorem num_zero (l : List UInt8) (at_ : Nat) : num l at_ 0 = 0 := by simp [num, fromLe]
theorem num_succ {l : List UInt8} {at_ k : Nat} {c : UInt8} (h : l[at_ + k]? = some c) : num l at_ (k + 1) = num l at_ k + 256 ^ k * c.toNat := by
  have hk : at_ + k < l.length := (List.getElem?_eq_some_iff.1 h).1
  have h1 : (l.drop at_)[k]? = some c := by rw [List.getElem?_drop]; exact h
  unfold num
  rw [List.take_add_one, h1]
  simp only [Option.toList_some]
  rw [fromLe_append]
  simp only [List.length_take, List.length_drop, fromLe]
  rw [show min k (l.length - at_) = k by omega]
  simp
theorem num_lt {l : List UInt8} (at_ n : Nat) : num l at_ n < 256 ^ n := by
  have h := fromLe_lt ((l.drop at_).take n)
  exact Nat.lt_of_lt_of_le h (Nat.pow_le_pow_right (by decide) (by simp; omega))
theorem num_or {l : List UInt8} {at_ k : Nat} {c : UInt8} (h : l[at_ + k]? = some c) (hk : k < 8) :
    ib .or .u64 ((num l at_ k : Nat) : Int) (IntKind.u64.wrap ((c.toNat : Int) * 2 ^ min (8 * (k : Int)).toNat IntKind.u64.bits)) = ((num l at_ (k + 1) : Nat) : Int) := by
  have e8 : (8 * (k : Int)).toNat = 8 * k := by omega
  have h1 : num l at_ k < 256 ^ k := num_lt at_ k
  have hp : 256 ^ k = 2 ^ (8 * k) := by rw [Nat.pow_mul]
  have hle : 256 ^ (k + 1) ≤ 18446744073709551616 := by
    rw [show (18446744073709551616 : Nat) = 256 ^ 8 from rfl]; exact Nat.pow_le_pow_right (by decide) (by omega)
  have h2 : num l at_ (k + 1) < 256 ^ (k + 1) := num_lt at_ (k + 1)
  have h3 := num_succ h
  have hx : (BitVec.ofNat 64 (num l at_ k)).toNat = num l at_ k := by rw [BitVec.toNat_ofNat]; omega
  have hy : (BitVec.ofNat 64 (256 ^ k * c.toNat)).toNat = 256 ^ k * c.toNat := by rw [BitVec.toNat_ofNat]; omega
  have e : IntKind.u64.wrap ((c.toNat : Int) * 2 ^ min (8 * (k : Int)).toNat IntKind.u64.bits) = ((256 ^ k * c.toNat : Nat) : Int) := by
    rw [e8, show min (8 * k) IntKind.u64.bits = 8 * k from Nat.min_eq_left (by show 8 * k ≤ 64; omega)]
    rw [show (c.toNat : Int) * 2 ^ (8 * k) = ((256 ^ k * c.toNat : Nat) : Int) from by rw [hp]; push_cast; rw [Int.mul_comm]]
    exact wrap_u64 (by omega) (by omega)
  rw [e, ← hx, ← hy, or64, BitVec.toNat_or, hx, hy, h3]
  congr 1
  rw [hp, Nat.or_comm, ← Nat.two_pow_add_eq_or_of_lt (by rw [← hp]; exact h1), Nat.add_comm]
theorem cut_bytes {w : World} {L o c at_ n : Nat} {l : List UInt8} (hb : Bytes w (some ⟨L, o, none⟩) l) (hc : l.length ≤ c) (hn : at_ + n ≤ l.length) :
    Bytes w (some ⟨L, if c = at_ then o else o + at_ * 1, none⟩) ((l.drop at_).take n) := fun k u hk => by
  have hk' : k < ((l.drop at_).take n).length := (List.getElem?_eq_some_iff.1 hk).1
  have hkn : k < n := by simp at hk'; omega
  have h1 : l[at_ + k]? = some u := by
    rw [List.getElem?_take, if_pos hkn, List.getElem?_drop] at hk; exact hk
  obtain ⟨b, o', hbo, hcell⟩ := hb _ _ h1
  simp only [Option.some.injEq, Addr.mk.injEq] at hbo
  obtain ⟨rfl, rfl, _⟩ := hbo
  rw [if_neg (by omega)]
  exact ⟨L, o + at_ * 1, rfl, by rw [← hcell]; congr 2; omega⟩
abbrev eyeC (L o m c at_ : Nat) : List Value := [.slice (some ⟨L, o, none⟩) m c, .int .i64 (at_ : Nat)]
def allZero (l : List UInt8) : Prop := ∀ c ∈ l, c = 0
instance (l : List UInt8) : Decidable (allZero l) := by unfold allZero; infer_instance
theorem allZero_at {l : List UInt8} {k : Nat} {c : UInt8} (h : l[k]? = some c) (hz : allZero l) : c = 0 := hz c (List.mem_of_getElem? h)
theorem zero_byte {c : UInt8} (h : (c.toNat : Int) = 0) : c = 0 := by
  apply UInt8.toNat_inj.1; simpa using h
end Go.Wk
set_option linter.unusedVariables false
set_option linter.unusedSimpArgs false
namespace Go.Wk
open Go
theorem num_cons {l : List UInt8} {a m : Nat} {c : UInt8} (h : l[a]? = some c) : num l a (m + 1) = num l (a + 1) m * 256 + c.toNat := by
  have hk : a < l.length := (List.getElem?_eq_some_iff.1 h).1
  have e := List.getElem?_eq_getElem hk
  rw [h] at e
  obtain rfl := Option.some.inj e
  unfold num
  rw [List.drop_eq_getElem_cons hk, List.take_succ_cons, fromLe]
  omega
/-- A number that is read is laid again as it stood. -/
theorem le_num {l : List UInt8} {a n : Nat} (h : a + n ≤ l.length) : le n (num l a n) = (l.drop a).take n := by
  have := le_fromLe ((l.drop a).take n)
  rw [show ((l.drop a).take n).length = n by simp; omega] at this
  exact this
theorem allZero_eq {l : List UInt8} (h : allZero l) : l = zs l.length := List.eq_replicate_iff.2 ⟨rfl, h⟩
def SupLine (l : List UInt8) : Prop := lineL (superB (num l 8 4) (num l 12 4) (num l 16 4)) = l
instance (l : List UInt8) : Decidable (SupLine l) := by unfold SupLine; infer_instance
end Go.Wk
set_option linter.unusedVariables false
set_option linter.unusedSimpArgs false
namespace Go.Wk
open Go
theorem seal_nat {a : BitVec 64} {v : BitVec 32} (h : v ≠ 0) : (sealW a v).toNat = (checkW a v).toNat * 4294967296 + v.toNat := by
  rw [seal_some h, BitVec.toNat_or, BitVec.toNat_shiftLeft, BitVec.toNat_setWidth, BitVec.toNat_setWidth]
  have h1 := (checkW a v).isLt
  have h2 := v.isLt
  rw [Nat.mod_eq_of_lt (a := (checkW a v).toNat) (by omega), Nat.mod_eq_of_lt (a := v.toNat) (by omega), Nat.shiftLeft_eq, Nat.mod_eq_of_lt (by omega), Nat.mul_comm]
  rw [show 2 ^ 32 * (checkW a v).toNat ||| v.toNat = 2 ^ 32 * (checkW a v).toNat + v.toNat from (Nat.two_pow_add_eq_or_of_lt (by omega) _).symm]
end Go.Wk
set_option linter.unusedVariables false
set_option linter.unusedSimpArgs false
namespace Go.Wk
open Go
/-! ### bit by bit -/
def one (b : Bool) : BitVec 32 := if b then 1 else 0
end Go.Wk
set_option linter.unusedVariables false
set_option linter.unusedSimpArgs false
namespace Go.Wk
open Go
theorem le_append : ∀ (n m u v : Nat), u < 256 ^ n → le n u ++ le m v = le (n + m) (u + 256 ^ n * v)
  | 0, m, u, v, h => by
    have : u = 0 := by simpa using h
    subst this; simp [le]
  | n + 1, m, u, v, h => by
    rw [show n + 1 + m = (n + m) + 1 by omega]
    simp only [le, List.cons_append]
    have h1 : u / 256 < 256 ^ n := by rw [Nat.pow_succ] at h; exact Nat.div_lt_of_lt_mul (by rw [Nat.mul_comm]; exact h)
    rw [le_append n m (u / 256) v h1]
    have e : u + 256 ^ (n + 1) * v = u + 256 * (256 ^ n * v) := by rw [Nat.pow_succ, Nat.mul_comm (256 ^ n) 256, Nat.mul_assoc]
    rw [e]
    congr 1
    · rw [← ofNat_mod (u + 256 * (256 ^ n * v)), ← ofNat_mod u]; congr 1; omega
    · congr 1; omega
end Go.Wk
set_option linter.unusedVariables false
set_option linter.unusedSimpArgs false
namespace Go.Wk
open Go
theorem seal_low (a : BitVec 64) (v : BitVec 32) : (sealW a v).setWidth 32 = v := by
  by_cases h : v = 0
  · rw [seal_zero h, h]; rfl
  · apply BitVec.eq_of_toNat_eq
    rw [BitVec.toNat_setWidth, seal_nat h]
    have := v.isLt
    omega
end Go.Wk
set_option linter.unusedVariables false
set_option linter.unusedSimpArgs false
namespace Go.Wk
open Go
end Go.Wk
set_option linter.unusedVariables false
set_option linter.unusedSimpArgs false
namespace Go.Proofs.YtpihenmdkoojdaaDoor
open Go Go.Wk
theorem List.take_succ_of_get {α : Type} {l : List α} {k : Nat} {c : α} (h : l[k]? = some c) : l.take (k + 1) = l.take k ++ [c] := by rw [List.take_add_one, h]; rfl
end Go.Proofs.YtpihenmdkoojdaaDoor
set_option linter.unusedVariables false
set_option linter.unusedSimpArgs false
namespace Go.Proofs.YtpihenmdkoojdaaDoor
open Go Go.Wk
def loOf : Option (Int × Int) → Int
  | none => 5
  | some c => c.1 + c.2 + 1
def loAt (L : List (Int × Int)) (k : Nat) : Int := loOf (L.take k).getLast?
theorem loAt_0 (L : List (Int × Int)) : loAt L 0 = 5 := rfl
theorem loAt_succ {L : List (Int × Int)} {k : Nat} {c : Int × Int} (h : L[k]? = some c) : loAt L (k + 1) = c.1 + c.2 + 1 := by
  unfold loAt; rw [List.take_succ_of_get h]; simp [loOf]
def OkSp (lo : Int) (c : Int × Int) : Prop := lo ≤ c.1 ∧ c.1 ≤ 1023 ∧ 1 ≤ c.2 ∧ c.1 + c.2 ≤ 1024
instance (lo : Int) (c : Int × Int) : Decidable (OkSp lo c) := by unfold OkSp; infer_instance
def SpK (L : List (Int × Int)) (k : Nat) : Prop := ∀ j c, j < k → L[j]? = some c → OkSp (loAt L j) c
theorem spK_0 (L : List (Int × Int)) : SpK L 0 := fun j c h => absurd h (Nat.not_lt_zero _)
theorem spK_succ {L : List (Int × Int)} {k : Nat} {c : Int × Int} (h : SpK L k) (hc : L[k]? = some c) (ho : OkSp (loAt L k) c) : SpK L (k + 1) := fun j d hj hd => by
  rcases Nat.lt_or_ge j k with h1 | h1
  · exact h j d h1 hd
  · obtain rfl : k = j := by omega
    rw [hc] at hd; obtain rfl := Option.some.inj hd; exact ho
theorem lo_bd {L : List (Int × Int)} : ∀ {k : Nat}, SpK L k → k ≤ L.length → 5 ≤ loAt L k ∧ loAt L k ≤ 1025
  | 0, _, _ => by rw [loAt_0]; omega
  | k + 1, h, hk => by
    have ih := lo_bd (k := k) (fun j c hj hc => h j c (by omega) hc) (by omega)
    have hg : L[k]? = some (L[k]'(by omega)) := List.getElem?_eq_getElem (by omega)
    have ho := h k _ (by omega) hg
    rw [loAt_succ hg]
    unfold OkSp at ho; omega
def GoodSv (t : BitVec 32) (L : List (Int × Int)) : Prop := t.toNat ≠ 0 ∧ L.length ≤ 249 ∧ SpK L L.length
noncomputable instance (t : BitVec 32) (L : List (Int × Int)) : Decidable (GoodSv t L) := Classical.propDecidable _
theorem spK_no {L : List (Int × Int)} {t : BitVec 32} {k : Nat} {c : Int × Int} (hc : L[k]? = some c) (ho : ¬ OkSp (loAt L k) c) : ¬ GoodSv t L := fun g => ho (g.2.2 k c (List.getElem?_eq_some_iff.1 hc).1 hc)
theorem goodSv_p (t : BitVec 32) (v : Value) (L : List (Int × Int)) (w : World) (hv : RdS w v L) (hlen : L.length ≤ 8796093022144) :
    PureC Tryd.prog 52 [.agg #[b32 t, v]] (.bool (decide (GoodSv t L))) w := by
 refine enter0 Tryd.func52 rfl Tryd.ntmps52 rfl ?_
 simp only [envOf]
 refine tR ?_
 refine At.box rfl rfl rfl (fun b1 => ?_)
 refine tA rfl rfl ?_
 refine tE ?_
 refine At.seq ?_
 refine tR ?_
 refine At.weaken [(0, _), (1, _), (2, _)] (Sub.cons rfl (Sub.cons rfl (Sub.cons rfl Sub.nil))) ?_
 refine At.boolMeet 9 14 (decide (t.toNat = 0 ∨ 249 < L.length)) ?_ ?_
 ·skip
  simp only [List.take_succ_cons, List.take_zero]
  refine At.val (Val.field 0 rfl fo_76_0 rfl) rfl rfl rfl ?_
  refine At.val (Val.load (i := 0) Tryd.isAgg71 rfl rfl rfl) rfl rfl rfl ?_
  refine At.val (Val.bin rfl rfl rfl) rfl rfl rfl ?_
  refine tM rfl rfl ?_
  refine At.split (t := 9) rfl (fun h2 => ?_) (fun h2 => ?_)
  ·skip
   try simp only [vN_T, vN_F, nmE_T, nmE_F, wI_T, wI_F, data_T, data_F, ino_T, ino_F, notT, notF, bneT, bneF, beqT, beqF, decT, decF] at h2
   refine At.no rfl rfl rfl rfl ?_
   refine At.no rfl rfl rfl rfl ?_
   refine At.no rfl rfl rfl rfl ?_
   refine At.no rfl rfl rfl rfl ?_
   refine At.val (Val.pickT rfl rfl) rfl rfl rfl ?_
   refine At.nil ?_
   exact At.boolEnd rfl (by first | rfl | exact (decide_eq_true (by omega)).symm | exact (decide_eq_false (by omega)).symm | (apply Bool.eq_iff_iff.2; simp only [decide_eq_true_eq, beq_iff_eq, bne_iff_ne, ne_eq, wI_T, data_T, ino_T, vN_T, nmE_T, Bool.not_eq_true', wI_F, data_F, ino_F, vN_F, nmE_F, decide_eq_false_iff_not]; omega)) (by repeat (first | exact Sub.nil | refine Sub.cons rfl ?_))
  ·skip
   try simp only [vN_T, vN_F, nmE_T, nmE_F, wI_T, wI_F, data_T, data_F, ino_T, ino_F, notT, notF, bneT, bneF, beqT, beqF, decT, decF] at h2
   refine At.yes rfl rfl ?_
   refine At.val (Val.field 1 rfl fo_76_1 rfl) rfl rfl rfl ?_
   refine At.yes rfl rfl ?_
   refine At.val (Val.load (i := 0) Tryd.isAgg30 rfl rfl rfl) rfl rfl rfl ?_
   refine At.yes rfl rfl ?_
   refine At.val (Val.lenRd hv Tryd.underlying30 rfl) rfl rfl rfl ?_
   refine At.yes rfl rfl ?_
   refine At.val (Val.bin rfl rfl rfl) rfl rfl rfl ?_
   refine At.val (Val.pickF rfl rfl) rfl rfl rfl ?_
   refine At.nil ?_
   exact At.boolEnd rfl (by first | rfl | exact (decide_eq_true (by omega)).symm | exact (decide_eq_false (by omega)).symm | (apply Bool.eq_iff_iff.2; simp only [decide_eq_true_eq, beq_iff_eq, bne_iff_ne, ne_eq, wI_T, data_T, ino_T, vN_T, nmE_T, Bool.not_eq_true', wI_F, data_F, ino_F, vN_F, nmE_F, decide_eq_false_iff_not]; omega)) (by repeat (first | exact Sub.nil | refine Sub.cons rfl ?_))
 ·skip
  simp only [List.drop_succ_cons, List.drop_zero]
  refine tE ?_
  refine At.cond rfl (fun h3 => ?_) (fun h3 => ?_)
  ·skip
   try simp only [vN_T, vN_F, nmE_T, nmE_F, wI_T, wI_F, data_T, data_F, ino_T, ino_F, notT, notF, bneT, bneF, beqT, beqF, decT, decF] at h3
   refine tR ?_
   refine tA rfl rfl ?_
   refine tE ?_
   refine At.retC ?_
   refine At.thenR ?_
   refine At.ret1 (.inl rfl) rfl rfl rfl (fun w hw => ?_)
   exact ⟨retB (decide_eq_false (fun g => by have h1 := g.1; have h2 := g.2.1; omega)).symm, hw.mod⟩
  ·skip
   try simp only [vN_T, vN_F, nmE_T, nmE_F, wI_T, wI_F, data_T, data_F, ino_T, ino_F, notT, notF, bneT, bneF, beqT, beqF, decT, decF] at h3
   refine At.skipC ?_
   refine At.thenN ?_
   refine tR ?_
   refine tA rfl rfl ?_
   refine tE ?_
   refine At.seq ?_
   refine tR ?_
   refine At.val (Val.field 1 rfl fo_76_1 rfl) rfl rfl rfl ?_
   refine At.val (Val.load (i := 0) Tryd.isAgg30 rfl rfl rfl) rfl rfl rfl ?_
   refine At.val (Val.lenRd hv Tryd.underlying30 rfl) rfl rfl rfl ?_
   refine tM rfl rfl ?_
   refine tE ?_
   refine At.block ?_
   skip
   refine At.drop 0 ?_
   simp only [ec0, ecS]
   refine At.loop (σ := Nat) (fun k => k ≤ L.length ∧ SpK L k) (fun k => [(16, v), (17, .int .i64 (L.length : Int)), (18, .int .i64 (k : Int)), (3, .int .i64 (loAt L k - 2))]) (fun k => []) (fun k => L.length - k) 0 ⟨Nat.zero_le _, spK_0 L⟩ (Sub.cons rfl (Sub.cons rfl (Sub.cons rfl (Sub.cons (congrArg (fun z => some (Value.int IntKind.i64 z)) (by rw [loAt_0]; rfl)) Sub.nil)))) (List.Perm.refl _) ?_
   intro k hs
   refine tR ?_
   refine At.val (Val.bin rfl rfl rfl) rfl rfl rfl ?_
   refine tE ?_
   refine At.seq ?_
   refine At.cond rfl (fun h4 => ?_) (fun h4 => ?_)
   ·skip
    try simp only [vN_T, vN_F, nmE_T, nmE_F, wI_T, wI_F, data_T, data_F, ino_T, ino_F, notT, notF, bneT, bneF, beqT, beqF, decT, decF] at h4
    have hk : k < L.length := by omega
    have hlo := lo_bd hs.2 hs.1
    refine At.skipC ?_
    refine At.thenN ?_
    refine At.seq ?_
    refine At.block ?_
    refine tR ?_
    refine At.idxS hv Tryd.underlying30 Tryd.sizeOf51 rfl rfl (by omega) (by omega) rfl rfl (fun b5 o6 q7 hq8 hc9 hd10 => ?_)
    refine At.val (Val.loadSpan Tryd.isAgg51 Tryd.sizeOf51 rfl hc9 hd10 (fun h => h)) rfl rfl rfl ?_
    refine At.alloc Tryd.zeroValue51 rfl rfl (fun b11 => ?_)
    refine At.storeAll (i := 0) Tryd.sizeOf51 rfl rfl rfl (by simp [Value.oneCell']) rfl rfl ?_
    simp only [sc0, scS]
    refine At.nil ?_
    have hqk := hq8
    rw [Int.toNat_natCast] at hqk
    refine At.thenN ?_
    refine At.seq ?_
    refine tR ?_
    refine At.weaken [(16, _), (17, _), (18, _), (3, _), (19, _), (20, _), (21, _), (5, _)] (Sub.cons rfl (Sub.cons rfl (Sub.cons rfl (Sub.cons rfl (Sub.cons rfl (Sub.cons rfl (Sub.cons rfl (Sub.cons rfl Sub.nil)))))))) ?_
    refine At.boolMeet 23 44 (decide (¬ OkSp (loAt L k) q7)) ?_ ?_
    ·skip
     simp only [List.take_succ_cons, List.take_zero]
     refine At.val (Val.field 1 rfl fo_51_1 rfl) rfl rfl rfl ?_
     refine At.val (Val.load (i := 0) Tryd.isAgg3 rfl rfl rfl) rfl rfl rfl ?_
     refine At.val (Val.bin rfl rfl rfl) rfl rfl rfl ?_
     refine tM rfl rfl ?_
     refine At.split (t := 25) rfl (fun h12 => ?_) (fun h12 => ?_)
     ·skip
      try simp only [vN_T, vN_F, nmE_T, nmE_F, wI_T, wI_F, data_T, data_F, ino_T, ino_F, notT, notF, bneT, bneF, beqT, beqF, decT, decF] at h12
      refine At.no rfl rfl rfl rfl ?_
      refine At.no rfl rfl rfl rfl ?_
      refine At.no rfl rfl rfl rfl ?_
      refine At.no rfl rfl rfl rfl ?_
      refine At.no rfl rfl rfl rfl ?_
      refine At.val (Val.pickT rfl rfl) rfl rfl rfl ?_
      refine tM rfl rfl ?_
      refine At.no rfl rfl rfl rfl ?_
      refine At.no rfl rfl rfl rfl ?_
      refine At.no rfl rfl rfl rfl ?_
      refine At.val (Val.pickT rfl rfl) rfl rfl rfl ?_
      refine tM rfl rfl ?_
      refine At.no rfl rfl rfl rfl ?_
      refine At.no rfl rfl rfl rfl ?_
      refine At.no rfl rfl rfl rfl ?_
      refine At.no rfl rfl rfl rfl ?_
      refine At.no rfl rfl rfl rfl ?_
      refine At.no rfl rfl rfl rfl ?_
      refine At.val (Val.pickT rfl rfl) rfl rfl rfl ?_
      refine At.nil ?_
      exact At.boolEnd rfl (by first | exact (decide_eq_true (show ¬ OkSp (loAt L k) q7 by unfold OkSp; omega)).symm | exact (decide_eq_false (show ¬ ¬ OkSp (loAt L k) q7 by unfold OkSp; omega)).symm | (apply Bool.eq_iff_iff.2; simp only [decide_eq_true_eq, Bool.not_eq_true', decide_eq_false_iff_not, data_F, data_T]; unfold OkSp; omega)) (by repeat (first | exact Sub.nil | refine Sub.cons rfl ?_))
     ·skip
      try simp only [vN_T, vN_F, nmE_T, nmE_F, wI_T, wI_F, data_T, data_F, ino_T, ino_F, notT, notF, bneT, bneF, beqT, beqF, decT, decF] at h12
      refine At.yes rfl rfl ?_
      refine At.val (Val.field 0 rfl fo_51_0 rfl) rfl rfl rfl ?_
      refine At.yes rfl rfl ?_
      refine At.val (Val.load (i := 0) Tryd.isAgg3 rfl rfl rfl) rfl rfl rfl ?_
      refine At.yes rfl rfl ?_
      refine tM rfl rfl ?_
      refine At.yes rfl rfl ?_
      first | refine At.val (Val.addI rfl rfl (by omega) (by omega)) rfl rfl rfl ?_ | refine At.val (Val.bin rfl rfl rfl) rfl rfl rfl ?_
      refine At.yes rfl rfl ?_
      refine At.val (Val.bin rfl rfl rfl) rfl rfl rfl ?_
      refine At.val (Val.pickF rfl rfl) rfl rfl rfl ?_
      refine tM rfl rfl ?_
      refine At.split (t := 32) rfl (fun h13 => ?_) (fun h13 => ?_)
      ·skip
       try simp only [vN_T, vN_F, nmE_T, nmE_F, wI_T, wI_F, data_T, data_F, ino_T, ino_F, notT, notF, bneT, bneF, beqT, beqF, decT, decF] at h13
       refine At.no rfl rfl rfl rfl ?_
       refine At.no rfl rfl rfl rfl ?_
       refine At.no rfl rfl rfl rfl ?_
       refine At.val (Val.pickT rfl rfl) rfl rfl rfl ?_
       refine tM rfl rfl ?_
       refine At.no rfl rfl rfl rfl ?_
       refine At.no rfl rfl rfl rfl ?_
       refine At.no rfl rfl rfl rfl ?_
       refine At.no rfl rfl rfl rfl ?_
       refine At.no rfl rfl rfl rfl ?_
       refine At.no rfl rfl rfl rfl ?_
       refine At.val (Val.pickT rfl rfl) rfl rfl rfl ?_
       refine At.nil ?_
       exact At.boolEnd rfl (by first | exact (decide_eq_true (show ¬ OkSp (loAt L k) q7 by unfold OkSp; omega)).symm | exact (decide_eq_false (show ¬ ¬ OkSp (loAt L k) q7 by unfold OkSp; omega)).symm | (apply Bool.eq_iff_iff.2; simp only [decide_eq_true_eq, Bool.not_eq_true', decide_eq_false_iff_not, data_F, data_T]; unfold OkSp; omega)) (by repeat (first | exact Sub.nil | refine Sub.cons rfl ?_))
      ·skip
       try simp only [vN_T, vN_F, nmE_T, nmE_F, wI_T, wI_F, data_T, data_F, ino_T, ino_F, notT, notF, bneT, bneF, beqT, beqF, decT, decF] at h13
       refine At.yes rfl rfl ?_
       refine At.val (Val.field 0 rfl fo_51_0 rfl) rfl rfl rfl ?_
       refine At.yes rfl rfl ?_
       refine At.val (Val.load (i := 0) Tryd.isAgg3 rfl rfl rfl) rfl rfl rfl ?_
       refine At.yes rfl rfl ?_
       refine At.val (Val.bin rfl rfl rfl) rfl rfl rfl ?_
       refine At.val (Val.pickF rfl rfl) rfl rfl rfl ?_
       refine tM rfl rfl ?_
       refine At.split (t := 37) rfl (fun h14 => ?_) (fun h14 => ?_)
       ·skip
        try simp only [vN_T, vN_F, nmE_T, nmE_F, wI_T, wI_F, data_T, data_F, ino_T, ino_F, notT, notF, bneT, bneF, beqT, beqF, decT, decF] at h14
        refine At.no rfl rfl rfl rfl ?_
        refine At.no rfl rfl rfl rfl ?_
        refine At.no rfl rfl rfl rfl ?_
        refine At.no rfl rfl rfl rfl ?_
        refine At.no rfl rfl rfl rfl ?_
        refine At.no rfl rfl rfl rfl ?_
        refine At.val (Val.pickT rfl rfl) rfl rfl rfl ?_
        refine At.nil ?_
        exact At.boolEnd rfl (by first | exact (decide_eq_true (show ¬ OkSp (loAt L k) q7 by unfold OkSp; omega)).symm | exact (decide_eq_false (show ¬ ¬ OkSp (loAt L k) q7 by unfold OkSp; omega)).symm | (apply Bool.eq_iff_iff.2; simp only [decide_eq_true_eq, Bool.not_eq_true', decide_eq_false_iff_not, data_F, data_T]; unfold OkSp; omega)) (by repeat (first | exact Sub.nil | refine Sub.cons rfl ?_))
       ·skip
        try simp only [vN_T, vN_F, nmE_T, nmE_F, wI_T, wI_F, data_T, data_F, ino_T, ino_F, notT, notF, bneT, bneF, beqT, beqF, decT, decF] at h14
        refine At.yes rfl rfl ?_
        refine At.val (Val.field 1 rfl fo_51_1 rfl) rfl rfl rfl ?_
        refine At.yes rfl rfl ?_
        refine At.val (Val.load (i := 0) Tryd.isAgg3 rfl rfl rfl) rfl rfl rfl ?_
        refine At.yes rfl rfl ?_
        refine At.val (Val.field 0 rfl fo_51_0 rfl) rfl rfl rfl ?_
        refine At.yes rfl rfl ?_
        refine At.val (Val.load (i := 0) Tryd.isAgg3 rfl rfl rfl) rfl rfl rfl ?_
        refine At.yes rfl rfl ?_
        first | refine At.val (Val.subI rfl rfl (by omega) (by omega)) rfl rfl rfl ?_ | refine At.val (Val.bin rfl rfl rfl) rfl rfl rfl ?_
        refine At.yes rfl rfl ?_
        refine At.val (Val.bin rfl rfl rfl) rfl rfl rfl ?_
        refine At.val (Val.pickF rfl rfl) rfl rfl rfl ?_
        refine At.nil ?_
        exact At.boolEnd rfl (by first | exact (decide_eq_true (show ¬ OkSp (loAt L k) q7 by unfold OkSp; omega)).symm | exact (decide_eq_false (show ¬ ¬ OkSp (loAt L k) q7 by unfold OkSp; omega)).symm | (apply Bool.eq_iff_iff.2; simp only [decide_eq_true_eq, Bool.not_eq_true', decide_eq_false_iff_not, data_F, data_T]; unfold OkSp; omega)) (by repeat (first | exact Sub.nil | refine Sub.cons rfl ?_))
    ·skip
     simp only [List.drop_succ_cons, List.drop_zero]
     refine tE ?_
     refine At.cond rfl (fun h15 => ?_) (fun h15 => ?_)
     ·skip
      try simp only [vN_T, vN_F, nmE_T, nmE_F, wI_T, wI_F, data_T, data_F, ino_T, ino_F, notT, notF, bneT, bneF, beqT, beqF, decT, decF] at h15
      have hno : ¬ OkSp _ _ := h15
      refine tR ?_
      refine tA rfl rfl ?_
      refine tE ?_
      refine At.retC ?_
      refine At.thenR ?_
      refine At.blkR ?_
      refine At.thenR ?_
      refine At.thenR ?_
      refine At.blkR ?_
      refine At.thenR ?_
      refine At.ret1 (.inl rfl) rfl rfl rfl (fun w hw => ?_)
      exact ⟨retB (decide_eq_false (spK_no hqk hno)).symm, hw.mod⟩
     ·skip
      try simp only [vN_T, vN_F, nmE_T, nmE_F, wI_T, wI_F, data_T, data_F, ino_T, ino_F, notT, notF, bneT, bneF, beqT, beqF, decT, decF] at h15
      have hyes : OkSp _ _ := Classical.not_not.1 h15
      have hyes2 := hyes
      unfold OkSp at hyes2
      refine At.skipC ?_
      refine At.thenN ?_
      refine At.region ?_
      refine At.val (Val.field 0 rfl fo_51_0 rfl) rfl rfl rfl ?_
      refine At.val (Val.load (i := 0) Tryd.isAgg3 rfl rfl rfl) rfl rfl rfl ?_
      refine At.val (Val.field 1 rfl fo_51_1 rfl) rfl rfl rfl ?_
      refine At.val (Val.load (i := 0) Tryd.isAgg3 rfl rfl rfl) rfl rfl rfl ?_
      first | refine At.val (Val.addI rfl rfl (by omega) (by omega)) rfl rfl rfl ?_ | refine At.val (Val.bin rfl rfl rfl) rfl rfl rfl ?_
      first | refine At.val (Val.subI rfl rfl (by omega) (by omega)) rfl rfl rfl ?_ | refine At.val (Val.bin rfl rfl rfl) rfl rfl rfl ?_
      refine tA rfl rfl ?_
      refine At.nil ?_
      refine At.blkN ?_
      refine At.thenN ?_
      refine At.region ?_
      first | refine At.val (Val.addI rfl rfl (by omega) (by omega)) rfl rfl rfl ?_ | refine At.val (Val.bin rfl rfl rfl) rfl rfl rfl ?_
      refine tM rfl rfl ?_
      refine tE ?_
      refine At.drop 0 ?_
      simp only [ec0, ecS]
      exact At.again (k + 1) ⟨by omega, spK_succ hs.2 hqk hyes⟩ (by omega) (Sub.cons rfl (Sub.cons rfl (Sub.cons (congrArg (fun z => some (Value.int IntKind.i64 z)) (by omega)) (Sub.cons (congrArg (fun z => some (Value.int IntKind.i64 z)) (by rw [loAt_succ hqk]; omega)) Sub.nil)))) (List.Perm.refl _)
   ·skip
    try simp only [vN_T, vN_F, nmE_T, nmE_F, wI_T, wI_F, data_T, data_F, ino_T, ino_F, notT, notF, bneT, bneF, beqT, beqF, decT, decF] at h4
    obtain rfl : k = L.length := by omega
    refine At.exitC ?_
    refine At.thenX ?_
    refine At.thenX ?_
    refine At.blkX ?_
    refine At.thenN ?_
    refine tR ?_
    refine tA rfl rfl ?_
    refine tE ?_
    refine At.retC ?_
    refine At.ret1 (.inl rfl) rfl rfl rfl (fun w hw => ?_)
    exact ⟨retB (decide_eq_true ⟨by omega, by omega, hs.2⟩).symm, hw.mod⟩
end Go.Proofs.YtpihenmdkoojdaaDoor
set_option linter.unusedVariables false
set_option linter.unusedSimpArgs false
namespace Go.Proofs.YtpihenmdkoojdaaDoor
open Go Go.Wk
def bytesW (ws : List (BitVec 64)) : List UInt8 := ws.flatMap fun x => le 8 x.toNat
theorem bytesW_append (a b : List (BitVec 64)) : bytesW (a ++ b) = bytesW a ++ bytesW b := by simp [bytesW]
theorem bytesW_length (a : List (BitVec 64)) : (bytesW a).length = 8 * a.length := by
  induction a with
  | nil => rfl
  | cons c a ih => simp only [bytesW, List.flatMap_cons, List.length_append, List.length_cons, le_length] at *; rw [ih]; omega
theorem bytesW_snoc (a : List (BitVec 64)) (x : BitVec 64) : bytesW (a ++ [x]) = bytesW a ++ le 8 x.toNat := by rw [bytesW_append]; simp [bytesW]
def SlotWd (a : Int) : Prop := 2048 ≤ a ∧ a ≤ 18431 ∧ (a - 2048) % 8 = 0 ∧ (a - 2048) % 64 ≤ 16
instance (a : Int) : Decidable (SlotWd a) := by unfold SlotWd; infer_instance
def hasAt (L : List (Int × BitVec 64)) (a : Int) : Bool := L.any fun d => d.1 == a
def OkAt (L : List (Int × BitVec 64)) (j : Nat) : Prop := ∀ c, L[j]? = some c → SlotWd c.1 ∧ hasAt (L.take j) c.1 = false
def GoodUn (L : List (Int × BitVec 64)) : Prop := 1 ≤ L.length ∧ L.length ≤ 8 ∧ ∀ j, j < L.length → OkAt L j
noncomputable instance (L : List (Int × BitVec 64)) : Decidable (GoodUn L) := Classical.propDecidable _
theorem bytes_n (v : Value) (ws : List (BitVec 64)) (w : World) (hv : RdW w v ws) (hlen : ws.length ≤ 1000000) :
    NewRow Tryd.prog 53 [v] 5 1 (bytesW ws).length ((bytesW ws).map bv) w := by
 refine enter (feet []) [] Tryd.func53 rfl Tryd.ntmps53 rfl ⟨by simp, by simp, by simp, Mod.refl _ _⟩ ?_
 simp only [envOf]
 refine tR ?_
 refine tA rfl rfl ?_
 refine tE ?_
 refine tR ?_
 refine tM rfl rfl ?_
 refine At.val (Val.lenRd hv Tryd.underlying83 rfl) rfl rfl rfl ?_
 refine At.val (Val.mulI rfl rfl (by omega) (by omega)) rfl rfl rfl ?_
 rw [show (8 : Int) * (ws.length : Int) = ((8 * ws.length : Nat) : Int) from by omega]
 refine At.makeRow0B (c := 8 * ws.length) Tryd.underlying38 info_5 rfl rfl rfl rfl rfl (by omega) rfl (fun v1 => ?_)
 refine tA rfl rfl ?_
 refine tE ?_
 refine At.seq ?_
 refine tR ?_
 refine tM rfl rfl ?_
 refine At.val (Val.lenRd hv Tryd.underlying83 rfl) rfl rfl rfl ?_
 refine tM rfl rfl ?_
 refine tE ?_
 refine At.block ?_
 skip
 refine At.loop (σ := Nat × Value) (fun s => s.1 ≤ ws.length) (fun s => [(3, s.2), (11, v), (12, .int .i64 (ws.length : Int)), (13, .int .i64 (s.1 : Int))]) (fun s => [brow 5 s.2 (bytesW (ws.take s.1))]) (fun s => ws.length - s.1) (0, v1) (Nat.zero_le _) (Sub.cons rfl (Sub.cons rfl (Sub.cons rfl (Sub.cons rfl Sub.nil)))) (List.Perm.refl _) ?_
 intro s hs
 obtain ⟨k, vk⟩ := s
 dsimp only at hs ⊢
 refine tR ?_
 refine At.val (Val.bin rfl rfl rfl) rfl rfl rfl ?_
 refine tE ?_
 refine At.seq ?_
 refine At.cond rfl (fun h2 => ?_) (fun h2 => ?_)
 ·skip
  try simp only [vN_T, vN_F, nmE_T, nmE_F, wI_T, wI_F, data_T, data_F, ino_T, ino_F, notT, notF, bneT, bneF, beqT, beqF, decT, decF] at h2
  have hk : k < ws.length := by omega
  have hbl := bytesW_length (ws.take k)
  have htl : (ws.take k).length = k := by rw [List.length_take]; omega
  refine At.skipC ?_
  refine At.thenN ?_
  refine At.seq ?_
  refine At.block ?_
  refine tR ?_
  refine At.idxF hv Tryd.underlying83 Tryd.sizeOf65 rfl rfl (by omega) (by omega) rfl rfl (fun b3 o4 q5 hq6 hc7 => ?_)
  refine At.val (Val.loadOld Tryd.isAgg65 rfl hc7 (fun h => by simp [feet] at h)) rfl rfl rfl ?_
  refine tA rfl rfl ?_
  refine tE ?_
  refine tR ?_
  refine tM rfl rfl ?_
  refine At.callP (fun w hw => lay_p q5 w) Tryd.call64 rfl rfl ?_
  refine At.alloc zero_114 zc_114 rfl (fun b9 => ?_)
  refine At.storeAll (i := 0) Tryd.sizeOf114 rfl rfl (by simp [le_length]) (by simp [Value.oneCell']) rfl (by simp) ?_
  simp only [sc0, scS]
  refine tE ?_
  refine At.region ?_
  refine tM rfl rfl ?_
  refine At.val (Val.cutArr 0 8 0 8 8 Tryd.underlying114 Tryd.sizeOf5 rfl rfl rfl (by decide) (by decide) rfl rfl rfl) rfl rfl rfl ?_
  refine At.appendBlkB (i := 1) (j := 0) (m := le 8 q5.toNat) (by_ := 1) Tryd.underlying38 info_5 rfl rfl rfl rfl rfl rfl rfl rfl (le_length ..) (by omega) (by omega) rfl (fun v10 => ?_)
  simp only [sc0, scS]
  refine tA rfl rfl ?_
  refine At.nil ?_
  refine At.blkN ?_
  refine At.thenN ?_
  refine At.region ?_
  first | refine At.val (Val.addI rfl rfl (by omega) (by omega)) rfl rfl rfl ?_ | refine At.val (Val.bin rfl rfl rfl) rfl rfl rfl ?_
  refine tM rfl rfl ?_
  refine tE ?_
  refine At.drop 0 ?_
  simp only [ec0, ecS]
  exact At.again (k + 1, v10) (show k + 1 ≤ _ by omega) (by dsimp only; omega) (Sub.cons rfl (Sub.cons rfl (Sub.cons rfl (Sub.cons (congrArg (fun z => some (Value.int IntKind.i64 z)) (by omega)) Sub.nil)))) (by rw [List.take_succ_of_get (by have := hq6; rwa [Int.toNat_natCast] at this), bytesW_snoc])
 ·skip
  try simp only [vN_T, vN_F, nmE_T, nmE_F, wI_T, wI_F, data_T, data_F, ino_T, ino_F, notT, notF, bneT, bneF, beqT, beqF, decT, decF] at h2
  obtain rfl : k = ws.length := by omega
  rw [List.take_length]
  refine At.exitC ?_
  refine At.thenX ?_
  refine At.thenX ?_
  refine At.blkX ?_
  refine At.thenN ?_
  refine tR ?_
  refine tM rfl rfl ?_
  refine tA rfl rfl ?_
  refine tE ?_
  refine At.retC ?_
  refine At.ret1 (.inl rfl) rfl rfl rfl (fun w hw => ?_)
  exact ⟨vk, rfl, hw.drop (List.singleton_sublist.2 (List.mem_of_getElem? (i := 0) rfl))⟩
end Go.Proofs.YtpihenmdkoojdaaDoor
set_option linter.unusedVariables false
set_option linter.unusedSimpArgs false
namespace Go.Wk
open Go
section
variable {P : Program} {Γ : Ctx} {E E' : Env} {H : List Res} {ops : Array Oper} {Q : Exit → Act → World → Prop} {rest : List Oper}
  {d : Nat} {ty : TypeId} {pos : String} {after : Array Edge} {x y : Operand} {v u : Value}
theorem At.copyStrRow {i dT sT e e' N C m c o b : Nat} {s : ByteArray} {l : List UInt8} (ht : P.underlying dT = some (.slice e)) (hz : ∀ w, (sizeOf e).run P w = .ok 1 w)
    (hx : ev E x = some (.slice (some ⟨b, o, none⟩) m c)) (hy : ev E y = some (.string s)) (hi : H[i]? = some (rowR (.slice (some ⟨b, 0, none⟩) N C) e' 1 N (l.map bv))) (hm : s.size ≤ m) (ho : o + s.size ≤ l.length) (hn : Nat.blt d Γ.n = true)
    (k : At Γ ((d, .int .i64 s.size) :: E) (H.set i (rowR (.slice (some ⟨b, 0, none⟩) N C) e' 1 N ((l.take o ++ s.data.toList ++ l.drop (o + s.data.toList.length)).map bv))) (wpList P ops Q rest)) :
    At Γ E H (wpList P ops Q ({ dst := some d, op := .call { callee := .builtin .copy, args := #[x, y], argTypes := #[dT, sT] }, type := ty, pos, after, guard := none } :: rest)) :=
  At.run rfl rfl hn fun a w ha hw => by
    have hl : (s.data.toList.map bv).length = s.size := by rw [List.length_map]; exact Array.length_toList
    obtain ⟨w', hr, hw'⟩ := storeCells_row (P := P) (s.data.toList.map bv) o 0 (l.map bv) H w hw hi (by rw [hl, List.length_map]; omega) (bv_one _)
    rw [Nat.add_zero, putAt_map] at hw'
    refine ⟨.int .i64 s.size, w', _, ?_, hw', k⟩
    have hmin : Nat.min s.size m = s.size := Nat.min_eq_left hm
    have hr' : (storeCells ⟨b, o, none⟩ (s.data.toList.map bv) 0).run P w = .ok () w' := hr
    have h0 : (Builtin.copy_ #[dT, sT] ty #[.slice (some ⟨b, o, none⟩) m c, .string s]).run P w = .ok (goInt s.size) w' := by
      simp [Builtin.copy_, run_underlying ht, Builtin.lenOf, Builtin.firstCells, hz, hmin]
      rw [List.take_of_length_le (by rw [List.length_map]; exact Nat.le_of_eq Array.length_toList)]
      rw [show (s.data.toList.map fun b : UInt8 => Value.int IntKind.u8 (b.toNat : Int)) = s.data.toList.map bv from rfl, hr']
      rfl
    simp [execOp, resolve, invoke, builtin, ha.eval hx, ha.eval hy, Sem.run_bind, h0, goInt]
theorem At.rowCap {i e sz n c : Nat} {A : Option Addr} {xs : List Value} {φ : Act → World → Prop} (hi : H[i]? = some (rowR (.slice A n c) e sz n xs)) (k : n ≤ c → At Γ E H φ) : At Γ E H φ := fun a w ha hw => by
  rcases (hw.row hi).2 with ⟨_, h⟩ | ⟨b, cap, cur, h, h1⟩
  · exact k (by omega) a w ha hw
  · simp only [Value.slice.injEq] at h
    obtain ⟨_, _, rfl⟩ := h
    exact k (by have := h1; omega) a w ha hw
/-- The first bytes of a row, into a part of a row that holds no more. -/
theorem At.copyCutRow {i j dT sT e e' N C c o b m : Nat} {l s : List UInt8} (ht : P.underlying dT = some (.slice e)) (hz : ∀ w, (sizeOf e).run P w = .ok 1 w)
    (hx : ev E x = some (.slice (some ⟨b, o, none⟩) m c)) (hy : ev E y = some u) (hi : H[i]? = some (rowR (.slice (some ⟨b, 0, none⟩) N C) e' 1 N (l.map bv))) (hj : H[j]? = some (rowR u e' 1 s.length (s.map bv))) (hm : m ≤ s.length) (hm0 : 0 < m) (ho : o + m ≤ l.length) (hn : Nat.blt d Γ.n = true)
    (k : At Γ ((d, .int .i64 m) :: E) (H.set i (rowR (.slice (some ⟨b, 0, none⟩) N C) e' 1 N ((l.take o ++ s.take m ++ l.drop (o + m)).map bv))) (wpList P ops Q rest)) :
    At Γ E H (wpList P ops Q ({ dst := some d, op := .call { callee := .builtin .copy, args := #[x, y], argTypes := #[dT, sT] }, type := ty, pos, after, guard := none } :: rest)) :=
  At.run rfl rfl hn fun a w ha hw => by
    have hsrc := hw.row hj
    have hl : ((s.take m).map bv).length = m := by rw [List.length_map, List.length_take]; omega
    obtain ⟨w', hr, hw'⟩ := storeCells_row (P := P) ((s.take m).map bv) o 0 (l.map bv) H w hw hi (by rw [hl, List.length_map]; omega) (bv_one _)
    rw [Nat.add_zero, putAt_map, List.length_take, Nat.min_eq_left hm] at hw'
    rcases hsrc.2 with ⟨_, h⟩ | ⟨b', cap', cur', rfl, _⟩
    · omega
    have hld := run_loadCells_list (P := P) w ⟨b', 0, none⟩ ((s.take m).map bv) (fun j u hu => by
      rw [Addr.add_off, Nat.zero_add]
      refine row_cell hsrc (q := j) ?_
      rw [List.getElem?_map] at hu ⊢
      rw [List.getElem?_take] at hu
      split at hu
      · exact hu
      · cases hu)
    refine ⟨.int .i64 m, w', _, ?_, hw', k⟩
    rw [hl] at hld
    have hr' : (storeCells ⟨b, o, none⟩ ((s.take m).map bv) 0).run P w = .ok () w' := hr
    have h0 : (Builtin.copy_ #[dT, sT] ty #[.slice (some ⟨b, o, none⟩) m c, .slice (some ⟨b', 0, none⟩) s.length cap']).run P w = .ok (goInt m) w' := by
      have hmin : Nat.min s.length m = m := Nat.min_eq_right hm
      have hmin' : min s.length m = m := Nat.min_eq_right hm
      have hmin2 : min m s.length = m := Nat.min_eq_left hm
      simp [Builtin.copy_, run_underlying ht, Builtin.lenOf, Builtin.firstCells, hz, hmin, hmin', hmin2, hld, hr']
      rw [← List.map_take, hr']
      rfl
    simp [execOp, resolve, invoke, builtin, ha.eval hx, ha.eval hy, Sem.run_bind, h0, goInt]
end
end Go.Wk
set_option linter.unusedVariables false
set_option linter.unusedSimpArgs false
namespace Go.Proofs.YtpihenmdkoojdaaDoor
open Go Go.Wk
theorem nat_b64 {n : Nat} (h : n < 18446744073709551616) : Value.int .u64 ((n : Nat) : Int) = b64 (BitVec.ofNat 64 n) := by
  unfold b64; rw [BitVec.toNat_ofNat, Nat.mod_eq_of_lt (by simpa using h)]
theorem u64_or {a b : Nat} (ha : a < 18446744073709551616) (hb : b < 18446744073709551616) : ib .or .u64 (a : Int) (b : Int) = ((a ||| b : Nat) : Int) := by
  show IntKind.u64.wrap ((BitVec.ofInt 64 (a : Int) ||| BitVec.ofInt 64 (b : Int)).toNat : Int) = _
  have e1 : (BitVec.ofInt 64 (a : Int)).toNat = a := by simp [BitVec.toNat_ofInt]; omega
  have e2 : (BitVec.ofInt 64 (b : Int)).toNat = b := by simp [BitVec.toNat_ofInt]; omega
  rw [BitVec.toNat_or, e1, e2]
  have : a ||| b < 2 ^ 64 := Nat.or_lt_two_pow (by simpa using ha) (by simpa using hb)
  have h2 : a ||| b < 18446744073709551616 := by simpa using this
  generalize a ||| b = z at *
  exact wrap_u64 (by omega) (by omega)
theorem or_shift {k a b : Nat} (ha : a < 2 ^ k) : a ||| (2 ^ k * b) = a + 2 ^ k * b := by
  rw [Nat.or_comm, ← Nat.two_pow_add_eq_or_of_lt ha]; omega
def magic : List UInt8 := [70, 85, 82, 82, 79, 87, 83, 86]
def spB (L : List (Int × Int)) : List UInt8 := L.flatMap fun c => le 2 c.1.toNat ++ le 2 c.2.toNat
theorem spB_snoc (L : List (Int × Int)) (c : Int × Int) : spB (L ++ [c]) = spB L ++ le 2 c.1.toNat ++ le 2 c.2.toNat := by simp [spB]
theorem spB_length (L : List (Int × Int)) : (spB L).length = 4 * L.length := by
  induction L with
  | nil => rfl
  | cons c L ih => unfold spB at *; simp only [List.flatMap_cons, List.length_append, List.length_cons, le_length, ih]; omega
def pad (n : Nat) : List UInt8 := if n % 2 = 1 then zs 4 else []
theorem pad_1 {n : Nat} (h : n % 2 = 1) : pad n = zs 4 := if_pos h
theorem pad_0 {n : Nat} (h : ¬ n % 2 = 1) : pad n = [] := if_neg h
theorem pad_length (n : Nat) : (pad n).length = 4 * (n % 2) := by
  by_cases h : n % 2 = 1
  · rw [pad_1 h, zs_length, h]
  · rw [pad_0 h]; simp; omega
def hd20 (t : BitVec 32) (n : Nat) : List UInt8 := magic ++ le 4 t.toNat ++ zs 4 ++ le 4 n
theorem hd20_length (t : BitVec 32) (n : Nat) : (hd20 t n).length = 20 := by unfold hd20; simp [le_length, zs_length, magic]
def svSum (t : BitVec 32) (L : List (Int × Int)) : BitVec 32 := sumOn 0 (hd20 t L.length ++ spB L)
def svB (t : BitVec 32) (L : List (Int × Int)) : List UInt8 := hd20 t L.length ++ le 4 (svSum t L).toNat ++ spB L ++ pad L.length
theorem svB_length (t : BitVec 32) (L : List (Int × Int)) : (svB t L).length = 24 + 4 * L.length + 4 * (L.length % 2) := by
  unfold svB; simp only [List.length_append, hd20_length, le_length, spB_length, pad_length]
noncomputable def svP (t : BitVec 32) (L : List (Int × Int)) : List UInt8 := if GoodSv t L then svB t L else []
noncomputable def svE (t : BitVec 32) (L : List (Int × Int)) : Int := if GoodSv t L then 0 else 36
theorem svP_T {t : BitVec 32} {L : List (Int × Int)} (h : GoodSv t L) : svP t L = svB t L := if_pos h
theorem svP_F {t : BitVec 32} {L : List (Int × Int)} (h : ¬ GoodSv t L) : svP t L = [] := if_neg h
theorem svE_T {t : BitVec 32} {L : List (Int × Int)} (h : GoodSv t L) : svE t L = 0 := if_pos h
theorem svE_F {t : BitVec 32} {L : List (Int × Int)} (h : ¬ GoodSv t L) : svE t L = 36 := if_neg h
theorem sumV_p (v : Value) (l : List UInt8) (w : World) (hv : RdB w v l) (ht : Tab w) (hlen : l.length ≤ 140737488355328) : PureC Tryd.prog 66 [v] (b32 (sumOn 0 l)) w := by
  obtain ⟨A, c, rfl, hb, _⟩ := hv.bytes; exact sum_p A l c w hb ht hlen
theorem sumOnV_p (s : BitVec 32) (v : Value) (l : List UInt8) (w : World) (hv : RdB w v l) (ht : Tab w) (hlen : l.length ≤ 140737488355328) : PureC Tryd.prog 65 [b32 s, v] (b32 (sumOn s l)) w := by
  obtain ⟨A, c, rfl, hb, _⟩ := hv.bytes; exact sumOn_p s A l c w hb ht hlen
def spW (c : Int × Int) : Nat := c.1.toNat + 65536 * c.2.toNat
/-- The words so far. -/
def hdW (t : BitVec 32) (n : Nat) : List UInt8 := zs 8 ++ le 4 t.toNat ++ zs 4 ++ le 4 n ++ zs 4
def WI (t : BitVec 32) (L : List (Int × Int)) (k : Nat) (W : List (BitVec 64)) : Prop := W.length = 3 + (k + 1) / 2 ∧ bytesW W = hdW t L.length ++ spB (L.take k) ++ pad k ∧ (k % 2 = 1 → ∃ W' y, W = W' ++ [y] ∧ y.toNat < 4294967296)
theorem le8_lo {n : Nat} (h : n < 256 ^ 4) : le 8 n = le 4 n ++ zs 4 := by
  have := le_append 4 4 n 0 h
  rw [Nat.mul_zero, Nat.add_zero] at this
  exact this.symm
theorem le4_sp {a b : Nat} (ha : a < 65536) : le 4 (a + 65536 * b) = le 2 a ++ le 2 b := (le_append 2 2 a b ha).symm
theorem ofNat_toNat {n : Nat} (h : n < 18446744073709551616) : (BitVec.ofNat 64 n).toNat = n := by rw [BitVec.toNat_ofNat, Nat.mod_eq_of_lt (by simpa using h)]
theorem wi_0 {t : BitVec 32} {L : List (Int × Int)} (hL : L.length ≤ 249) : WI t L 0 [0, BitVec.ofNat 64 t.toNat, BitVec.ofNat 64 L.length] := by
  refine ⟨rfl, ?_, fun h => by simp at h⟩
  have ht := t.isLt
  rw [show bytesW [0, BitVec.ofNat 64 t.toNat, BitVec.ofNat 64 L.length] = le 8 (0 : BitVec 64).toNat ++ (le 8 (BitVec.ofNat 64 t.toNat).toNat ++ (le 8 (BitVec.ofNat 64 L.length).toNat ++ [])) from rfl, ofNat_toNat (by omega), ofNat_toNat (by omega), le8_lo (n := t.toNat) (by omega), le8_lo (n := L.length) (by omega)]
  unfold hdW
  rw [List.take_zero, show spB [] = [] from rfl, show pad 0 = [] from rfl, show le 8 (0 : BitVec 64).toNat = zs 8 from rfl]
  simp only [List.append_assoc, List.append_nil]
theorem spW_lt {lo : Int} {c : Int × Int} (h5 : 5 ≤ lo) (h : OkSp lo c) : spW c < 4294967296 ∧ c.1.toNat < 65536 := by unfold OkSp at h; unfold spW; omega
theorem wi_even {t : BitVec 32} {L : List (Int × Int)} {k : Nat} {W : List (BitVec 64)} {c : Int × Int} (h : WI t L k W) (hk : k % 2 = 0) (hc : L[k]? = some c) (hw : spW c < 4294967296 ∧ c.1.toNat < 65536) : WI t L (k + 1) (W ++ [BitVec.ofNat 64 (spW c)]) := by
  obtain ⟨h1, h2, _⟩ := h
  refine ⟨by rw [List.length_append, h1]; simp; omega, ?_, fun _ => ⟨W, _, rfl, by rw [ofNat_toNat (by omega)]; exact hw.1⟩⟩
  rw [bytesW_snoc, ofNat_toNat (by omega), h2, pad_0 (by omega), pad_1 (by omega), List.take_succ_of_get hc, spB_snoc, le8_lo (by omega)]
  unfold spW
  rw [le4_sp hw.2]
  simp only [List.append_assoc, List.append_nil, List.nil_append]
theorem wi_odd {t : BitVec 32} {L : List (Int × Int)} {k : Nat} {W' : List (BitVec 64)} {y : BitVec 64} {c : Int × Int} (h : WI t L k (W' ++ [y])) (hk : k % 2 = 1) (hy : y.toNat < 4294967296) (hc : L[k]? = some c) (hw : spW c < 4294967296 ∧ c.1.toNat < 65536) : WI t L (k + 1) (W' ++ [BitVec.ofNat 64 (y.toNat + 4294967296 * spW c)]) := by
  obtain ⟨h1, h2, _⟩ := h
  rw [List.length_append] at h1
  refine ⟨by rw [List.length_append]; simp at h1 ⊢; omega, ?_, fun h => by omega⟩
  rw [bytesW_snoc, pad_1 hk, le8_lo (by omega), ← List.append_assoc] at h2
  have h3 := List.append_cancel_right h2
  rw [bytesW_snoc, ofNat_toNat (by omega), pad_0 (by omega), List.take_succ_of_get hc, spB_snoc]
  have e : le 8 (y.toNat + 4294967296 * spW c) = le 4 y.toNat ++ le 4 (spW c) := (le_append 4 4 y.toNat (spW c) (by omega)).symm
  rw [e, ← List.append_assoc, h3]
  unfold spW
  rw [le4_sp hw.2]
  simp only [List.append_assoc, List.append_nil]
theorem set_last (W' : List (BitVec 64)) (y z : BitVec 64) : ((W' ++ [y]).map b64).set W'.length (b64 z) = (W' ++ [z]).map b64 := by
  rw [← List.map_set, List.set_append_right _ _ (Nat.le_refl _), Nat.sub_self]; rfl
/-- The record with its name, without its sum. -/
def svZ (t : BitVec 32) (L : List (Int × Int)) : List UInt8 := hdW t L.length ++ spB L ++ pad L.length
def svM (t : BitVec 32) (L : List (Int × Int)) : List UInt8 := hd20 t L.length ++ zs 4 ++ spB L ++ pad L.length
theorem svZ_length (t : BitVec 32) (L : List (Int × Int)) : (svZ t L).length = 24 + 4 * L.length + 4 * (L.length % 2) := by
  unfold svZ hdW; simp only [List.length_append, zs_length, le_length, spB_length, pad_length]
theorem svM_length (t : BitVec 32) (L : List (Int × Int)) : (svM t L).length = 24 + 4 * L.length + 4 * (L.length % 2) := by
  unfold svM; simp only [List.length_append, hd20_length, zs_length, spB_length, pad_length]
theorem svM_of (t : BitVec 32) (L : List (Int × Int)) (m : List UInt8) (hm : m = magic) : (svZ t L).take 0 ++ m ++ (svZ t L).drop (0 + m.length) = svM t L := by
  subst hm
  rw [List.take_zero, List.nil_append]
  unfold svZ svM hd20 hdW
  rw [show 0 + magic.length = (zs 8).length from rfl]
  simp only [List.append_assoc]
  rw [List.drop_left]
theorem svM_sum (t : BitVec 32) (L : List (Int × Int)) : (svM t L).take 20 ++ ((svM t L).drop 24).take (4 * L.length) = hd20 t L.length ++ spB L := by
  have e : svM t L = hd20 t L.length ++ (zs 4 ++ (spB L ++ pad L.length)) := by unfold svM; simp only [List.append_assoc]
  rw [e, List.take_left' (hd20_length ..)]
  congr 1
  rw [show (24 : Nat) = 20 + 4 from rfl, ← List.drop_drop, List.drop_left' (hd20_length ..), List.drop_left' (zs_length 4), List.take_left' (spB_length L)]
theorem svB_of (t : BitVec 32) (L : List (Int × Int)) : (svM t L).take 20 ++ (le 8 (svSum t L).toNat).take 4 ++ (svM t L).drop (20 + 4) = svB t L := by
  have e : svM t L = hd20 t L.length ++ (zs 4 ++ (spB L ++ pad L.length)) := by unfold svM; simp only [List.append_assoc]
  rw [e, List.take_left' (hd20_length ..), ← List.drop_drop, List.drop_left' (hd20_length ..), List.drop_left' (zs_length 4), le_take (by decide)]
  unfold svB; simp only [List.append_assoc]
theorem svSum_p (v : Value) (l : List UInt8) (n : Nat) (w : World) (ht : Tab w) (hv : RdB w v l) (hn : 24 + 4 * n ≤ l.length) (hlen : l.length ≤ 140737488355328) :
    PureC Tryd.prog 54 [v, .int .i64 (n : Int)] (b32 (sumOn 0 (l.take 20 ++ (l.drop 24).take (4 * n)))) w := by
 obtain ⟨A, c, rfl, hcl, hl1, hc1, hn1, hs1⟩ := id hv
 refine enter0 Tryd.func54 rfl Tryd.ntmps54 rfl ?_
 simp only [envOf]
 refine tR ?_
 refine tA rfl rfl ?_
 refine tE ?_
 refine At.seq ?_
 refine At.quiet rfl (by decide +kernel) ?_
 refine qM rfl rfl ?_
 refine QAt.val (Val.cutRd (l := 0) (h := 20) hv Tryd.underlying38 Tryd.sizeOf5 rfl rfl ⟨_, _, rfl, by omega, by omega⟩ (by omega) (by omega)) rfl rfl rfl ?_
 refine QAt.callP (fun w hw => sumV_p _ _ w ((RdB.cut (l := 0) (h := 20) hv (by omega) (by omega)).mod hw.mod) (ht.mod hw.mod) (by simp only [List.length_take, List.length_drop]; omega)) Tryd.call66 rfl rfl ?_
 refine qM rfl rfl ?_
 refine qM rfl rfl ?_
 first | refine QAt.val (Val.mulI rfl rfl (by omega) (by omega)) rfl rfl rfl ?_ | refine QAt.val (Val.bin rfl rfl rfl) rfl rfl rfl ?_
 first | refine QAt.val (Val.addI rfl rfl (by omega) (by omega)) rfl rfl rfl ?_ | refine QAt.val (Val.bin rfl rfl rfl) rfl rfl rfl ?_
 refine QAt.val (Val.cutRd (l := 24) (h := 24 + 4 * n) hv Tryd.underlying38 Tryd.sizeOf5 rfl ⟨_, _, rfl, by omega, by omega⟩ ⟨_, _, rfl, by omega, by omega⟩ (by omega) (by omega)) rfl rfl rfl ?_
 refine QAt.callP (fun w hw => sumOnV_p _ _ _ w ((RdB.cut (l := 24) (h := 24 + 4 * n) hv (by omega) (by omega)).mod hw.mod) (ht.mod hw.mod) (by simp only [List.length_take, List.length_drop]; omega)) Tryd.call65 rfl rfl ?_
 refine QAt.val (Val.assign rfl) rfl rfl rfl ?_
 refine QAt.fin ?_
 refine At.thenN ?_
 refine At.retC ?_
 refine At.ret1 (.inl rfl) rfl rfl rfl (fun w hw => ?_)
 exact ⟨by rw [sumOn_append, List.drop_zero, show 20 - 0 = 20 from rfl, show 24 + 4 * n - 24 = 4 * n from by omega], hw.mod⟩
theorem packSv_n (t : BitVec 32) (v : Value) (L : List (Int × Int)) (w : World) (hv : RdS w v L) (hlen : L.length ≤ 8796093022144) (ht : Tab w) :
    NewRowT Tryd.prog 33 [.agg #[b32 t, v]] (fun v => .tuple #[v, .int .i64 (svE t L)]) 5 1 (svP t L).length ((svP t L).map bv) w := by
 refine enter0 Tryd.func33 rfl Tryd.ntmps33 rfl ?_
 simp only [envOf]
 refine tR ?_
 refine At.box rfl rfl rfl (fun b1 => ?_)
 refine tA rfl rfl ?_
 refine tA rfl rfl ?_
 refine tE ?_
 refine At.seq ?_
 refine tR ?_
 refine At.val (Val.loadAll (i := 0) Tryd.isAgg76 Tryd.sizeOf76 rfl rfl rfl) rfl rfl rfl ?_
 refine At.callP (fun w hw => goodSv_p t v L w (hv.mod hw.mod) hlen) Tryd.call52 rfl rfl ?_
 refine At.val (Val.not rfl) rfl rfl rfl ?_
 refine tE ?_
 refine At.cond rfl (fun h2 => ?_) (fun h2 => ?_)
 ·skip
  try simp only [vN_T, vN_F, nmE_T, nmE_F, wI_T, wI_F, data_T, data_F, ino_T, ino_F, notT, notF, bneT, bneF, beqT, beqF, decT, decF] at h2
  have hg : ¬ GoodSv t L := by simpa using h2
  refine tR ?_
  refine tA rfl rfl ?_
  refine tA rfl rfl ?_
  refine At.nil ?_
  refine At.rowNilB 5 ?_
  refine At.thenN ?_
  refine At.retC ?_
  refine At.thenR ?_
  refine At.ret2 (.inl rfl) rfl rfl rfl rfl (fun w hw => ?_)
  exact ⟨_, by rw [svE_F hg], by rw [svP_F hg]; exact (hw.drop (List.singleton_sublist.2 (List.mem_of_getElem? (i := 0) rfl))).f0⟩
 ·skip
  try simp only [vN_T, vN_F, nmE_T, nmE_F, wI_T, wI_F, data_T, data_F, ino_T, ino_F, notT, notF, bneT, bneF, beqT, beqF, decT, decF] at h2
  have hg : GoodSv t L := by simpa using h2
  have hL : L.length ≤ 249 := hg.2.1
  have hti := t.isLt
  refine At.skipC ?_
  refine At.thenN ?_
  refine tR ?_
  refine At.val (Val.field 1 rfl fo_76_1 rfl) rfl rfl rfl ?_
  refine At.val (Val.load (i := 0) Tryd.isAgg30 rfl rfl rfl) rfl rfl rfl ?_
  refine At.val (Val.lenRd hv Tryd.underlying30 rfl) rfl rfl rfl ?_
  refine tA rfl rfl ?_
  refine tE ?_
  refine tR ?_
  refine At.val (Val.field 0 rfl fo_76_0 rfl) rfl rfl rfl ?_
  refine At.val (Val.load (i := 0) Tryd.isAgg71 rfl rfl rfl) rfl rfl rfl ?_
  refine At.val (Val.toU Tryd.underlying71 Tryd.underlying65 rfl (by omega) (by omega)) rfl rfl rfl ?_
  rw [nat_b64 (n := t.toNat) (by omega)]
  refine tM rfl rfl ?_
  refine At.val (Val.toU Tryd.underlying3 Tryd.underlying65 rfl (by omega) (by omega)) rfl rfl rfl ?_
  rw [nat_b64 (n := L.length) (by omega)]
  refine At.buildRow (fun a ha => by simp only [List.map_toArray, List.map_cons, List.map_nil, ha.eval (x := (.const (.int .u64 (0)))) rfl, ha.eval (x := (.tmp 19)) rfl, ha.eval (x := (.tmp 21)) rfl]; try rfl) (bs_83_3 _ _ _ ) 1 rfl (by decide) rfl (fun v3 => ?_)
  change At _ _ (wrow 65 v3 ([0, BitVec.ofNat 64 t.toNat, BitVec.ofNat 64 L.length]) :: _) _
  refine tA rfl rfl ?_
  refine tE ?_
  refine At.seq ?_
  refine tR ?_
  refine At.val (Val.field 1 rfl fo_76_1 rfl) rfl rfl rfl ?_
  refine At.val (Val.load (i := 1) Tryd.isAgg30 rfl rfl rfl) rfl rfl rfl ?_
  refine At.val (Val.lenRd hv Tryd.underlying30 rfl) rfl rfl rfl ?_
  refine tM rfl rfl ?_
  refine tE ?_
  refine At.block ?_
  skip
  refine At.drop 1 ?_
  simp only [ec0, ecS]
  refine At.loop (σ := Nat × List (BitVec 64) × Value) (fun s => s.1 ≤ L.length ∧ WI t L s.1 s.2.1) (fun s => [(4, .int .i64 (L.length : Int)), (5, s.2.2), (24, v), (25, .int .i64 (L.length : Int)), (26, .int .i64 (s.1 : Int))]) (fun s => [wrow 65 s.2.2 s.2.1]) (fun s => L.length - s.1) (0, [0, BitVec.ofNat 64 t.toNat, BitVec.ofNat 64 L.length], v3) ⟨Nat.zero_le _, wi_0 hL⟩ (Sub.cons rfl (Sub.cons rfl (Sub.cons rfl (Sub.cons rfl (Sub.cons rfl Sub.nil))))) (List.Perm.refl _) ?_
  intro s hs
  obtain ⟨k, W, vk⟩ := s
  dsimp only at hs ⊢
  refine tR ?_
  refine At.val (Val.bin rfl rfl rfl) rfl rfl rfl ?_
  refine tE ?_
  refine At.seq ?_
  refine At.cond rfl (fun h4 => ?_) (fun h4 => ?_)
  ·skip
   try simp only [vN_T, vN_F, nmE_T, nmE_F, wI_T, wI_F, data_T, data_F, ino_T, ino_F, notT, notF, bneT, bneF, beqT, beqF, decT, decF] at h4
   have hk : k < L.length := by omega
   refine At.skipC ?_
   refine At.thenN ?_
   refine At.seq ?_
   refine At.block ?_
   refine tR ?_
   refine tM rfl rfl ?_
   refine At.idxS hv Tryd.underlying30 Tryd.sizeOf51 rfl rfl (by omega) (by omega) rfl rfl (fun b5 o6 q7 hq8 hc9 hd10 => ?_)
   refine At.val (Val.loadSpan Tryd.isAgg51 Tryd.sizeOf51 rfl hc9 hd10 (fun h => h)) rfl rfl rfl ?_
   refine At.alloc Tryd.zeroValue51 rfl rfl (fun b11 => ?_)
   refine tA rfl rfl ?_
   refine At.storeAll (i := 0) Tryd.sizeOf51 rfl rfl rfl (by simp [Value.oneCell']) rfl rfl ?_
   simp only [sc0, scS]
   refine At.nil ?_
   have hqk := hq8
   rw [Int.toNat_natCast] at hqk
   have hc := hg.2.2 k _ hk hqk
   have hlo := lo_bd (k := k) (fun j c hj hc => hg.2.2 j c (by omega) hc) (by omega)
   have hw2 := spW_lt hlo.1 hc
   have hc2 := hc
   unfold OkSp at hc2
   refine At.thenN ?_
   refine tR ?_
   refine At.val (Val.field 0 rfl fo_51_0 rfl) rfl rfl rfl ?_
   refine At.val (Val.load (i := 0) Tryd.isAgg3 rfl rfl rfl) rfl rfl rfl ?_
   first | refine At.val (Val.toU Tryd.underlying3 Tryd.underlying65 rfl (by omega) (by omega)) rfl rfl rfl ?_ | refine At.val (Val.conv Tryd.underlying3 Tryd.underlying65 rfl) rfl rfl rfl ?_
   refine At.val (Val.field 1 rfl fo_51_1 rfl) rfl rfl rfl ?_
   refine At.val (Val.load (i := 0) Tryd.isAgg3 rfl rfl rfl) rfl rfl rfl ?_
   first | refine At.val (Val.toU Tryd.underlying3 Tryd.underlying65 rfl (by omega) (by omega)) rfl rfl rfl ?_ | refine At.val (Val.conv Tryd.underlying3 Tryd.underlying65 rfl) rfl rfl rfl ?_
   refine At.val (Val.shl rfl rfl (by decide)) rfl rfl rfl ?_
   rw [show IntKind.u64.wrap (q7.2 * 2 ^ min (16 : Int).toNat IntKind.u64.bits) = ((65536 * q7.2.toNat : Nat) : Int) from by rw [show (2 : Int) ^ min (16 : Int).toNat IntKind.u64.bits = 65536 from rfl, wrap_u64 (by omega) (by omega)]; omega]
   refine At.val (Val.bin rfl rfl rfl) rfl rfl rfl ?_
   rw [show ib .or .u64 q7.1 ((65536 * q7.2.toNat : Nat) : Int) = ((spW q7 : Nat) : Int) from by rw [show q7.1 = ((q7.1.toNat : Nat) : Int) from by omega, u64_or (by omega) (by omega), show (65536 : Nat) = 2 ^ 16 from rfl, or_shift (by omega)]; unfold spW; omega, nat_b64 (n := spW q7) (by omega)]
   refine tA rfl rfl ?_
   refine tE ?_
   refine tR ?_
   refine tM rfl rfl ?_
   first | refine At.val (Val.remI rfl rfl (by omega) (by decide)) rfl rfl rfl ?_ | refine At.val (Val.rem rfl rfl (by decide)) rfl rfl rfl ?_
   refine At.val (Val.bin rfl rfl rfl) rfl rfl rfl ?_
   refine tE ?_
   refine At.cond rfl (fun h12 => ?_) (fun h12 => ?_)
   ·skip
    try simp only [vN_T, vN_F, nmE_T, nmE_F, wI_T, wI_F, data_T, data_F, ino_T, ino_F, notT, notF, bneT, bneF, beqT, beqF, decT, decF] at h12
    have hev : k % 2 = 0 := by omega
    refine At.region ?_
    refine tM rfl rfl ?_
    refine tM rfl rfl ?_
    refine At.buildSl (fun a ha => by simp only [List.map_toArray, List.map_cons, List.map_nil, ha.eval (x := (.tmp 43)) rfl]; try rfl) (bs_83_1 _ ) rfl (fun b13 => ?_)
    refine At.appendWs (i := 2) (j := 0) (ms := [BitVec.ofNat 64 (spW q7)]) (by_ := 8) Tryd.underlying83 info_65 rfl rfl rfl rfl rfl rfl rfl rfl rfl (by rw [hs.2.1]; omega) (by rw [hs.2.1]; omega) rfl (fun v14 => ?_)
    simp only [sc0, scS]
    refine At.drop 0 ?_
    simp only [ec0, ecS]
    refine tA rfl rfl ?_
    refine At.nil ?_
    refine At.blkN ?_
    refine At.thenN ?_
    refine At.region ?_
    first | refine At.val (Val.addI rfl rfl (by omega) (by omega)) rfl rfl rfl ?_ | refine At.val (Val.bin rfl rfl rfl) rfl rfl rfl ?_
    refine tM rfl rfl ?_
    refine tE ?_
    refine At.drop 0 ?_
    simp only [ec0, ecS]
    exact At.again (k + 1, (W ++ [BitVec.ofNat 64 (spW q7)]), v14) ⟨(show k + 1 ≤ _ by omega), wi_even hs.2 hev hqk hw2⟩ (by dsimp only; omega) (Sub.cons rfl (Sub.cons rfl (Sub.cons rfl (Sub.cons rfl (Sub.cons (congrArg (fun z => some (Value.int IntKind.i64 z)) (by omega)) Sub.nil))))) (List.Perm.refl _)
   ·skip
    try simp only [vN_T, vN_F, nmE_T, nmE_F, wI_T, wI_F, data_T, data_F, ino_T, ino_F, notT, notF, bneT, bneF, beqT, beqF, decT, decF] at h12
    have hod : k % 2 = 1 := by omega
    obtain ⟨W', y, rfl, hy⟩ := hs.2.2.2 hod
    refine At.region ?_
    refine tM rfl rfl ?_
    refine tM rfl rfl ?_
    refine At.val (Val.lenRow (i := 1) Tryd.underlying83 rfl rfl) rfl rfl rfl ?_
    refine At.val (Val.bin rfl rfl rfl) rfl rfl rfl ?_
    rw [show IntKind.i64.wrap (((W' ++ [y]).length : Int) - 1) = ((W'.length : Nat) : Int) from by rw [List.length_append, List.length_singleton]; rw [wrap_i64 (by omega) (by have := hs.2.1; simp at this; omega)]; omega]
    refine At.val (Val.indexRow (i := 1) W'.length (by simp) Tryd.underlying83 Tryd.sizeOf65 rfl rfl rfl (by simp) (by simp; try omega)) rfl rfl rfl ?_
    refine At.val (Val.loadRow (i := 1) (u := b64 y) Tryd.isAgg65 rfl rfl (by simp)) rfl rfl rfl ?_
    refine tM rfl rfl ?_
    refine At.val (Val.shl rfl rfl (by decide)) rfl rfl rfl ?_
    rw [ofNat_toNat (n := spW q7) (by omega), show IntKind.u64.wrap (((spW q7 : Nat) : Int) * 2 ^ min (32 : Int).toNat IntKind.u64.bits) = ((4294967296 * spW q7 : Nat) : Int) from by rw [show (2 : Int) ^ min (32 : Int).toNat IntKind.u64.bits = 4294967296 from rfl, wrap_u64 (by omega) (by omega)]; omega]
    refine At.val (Val.bin rfl rfl rfl) rfl rfl rfl ?_
    rw [u64_or (a := y.toNat) (b := 4294967296 * spW q7) (by omega) (by omega), show (4294967296 : Nat) = 2 ^ 32 from rfl, or_shift (by simpa using hy), show (2 : Nat) ^ 32 = 4294967296 from rfl, nat_b64 (n := y.toNat + 4294967296 * spW q7) (by omega)]
    refine At.val (Val.indexRow (i := 1) W'.length (by simp) Tryd.underlying83 Tryd.sizeOf65 rfl rfl rfl (by simp) (by simp; try omega)) rfl rfl rfl ?_
    refine At.storeRow (i := 1) Tryd.sizeOf65 rfl rfl rfl rfl (by simp) ?_
    simp only [sc0, scS]
    rw [set_last, show (W' ++ [y]).length = (W' ++ [BitVec.ofNat 64 (y.toNat + 4294967296 * spW q7)]).length from by simp]
    refine At.nil ?_
    refine At.blkN ?_
    refine At.thenN ?_
    refine At.region ?_
    first | refine At.val (Val.addI rfl rfl (by omega) (by omega)) rfl rfl rfl ?_ | refine At.val (Val.bin rfl rfl rfl) rfl rfl rfl ?_
    refine tM rfl rfl ?_
    refine tE ?_
    refine At.drop 0 ?_
    simp only [ec0, ecS]
    exact At.again (k + 1, (W' ++ [BitVec.ofNat 64 (y.toNat + 4294967296 * spW q7)]), vk) ⟨(show k + 1 ≤ _ by omega), wi_odd hs.2 hod hy hqk hw2⟩ (by dsimp only; omega) (Sub.cons rfl (Sub.cons rfl (Sub.cons rfl (Sub.cons rfl (Sub.cons (congrArg (fun z => some (Value.int IntKind.i64 z)) (by omega)) Sub.nil))))) (List.Perm.refl _)
  ·skip
   try simp only [vN_T, vN_F, nmE_T, nmE_F, wI_T, wI_F, data_T, data_F, ino_T, ino_F, notT, notF, bneT, bneF, beqT, beqF, decT, decF] at h4
   obtain rfl : k = L.length := by omega
   have hWb := hs.2.2.1
   rw [List.take_length] at hWb
   have hZ := svZ_length t L
   have hM := svM_length t L
   refine At.exitC ?_
   refine At.thenX ?_
   refine At.thenX ?_
   refine At.blkX ?_
   refine At.thenN ?_
   refine tR ?_
   refine tM rfl rfl ?_
   refine At.callN (fun w hw => (show NewRow Tryd.prog 53 _ 5 1 (svZ t L).length ((svZ t L).map bv) w from by have := bytes_n _ W w (row_rd (hw.row (i := 0) rfl) (by decide)) (by rw [hs.2.1]; omega); rwa [hWb] at this)) Tryd.call53 rfl rfl (fun v15 => ?_)
   refine tA rfl rfl ?_
   refine tE ?_
   refine tR ?_
   refine tM rfl rfl ?_
   refine At.rowSome (i := 0) rfl (by omega) (fun bz cz hv' => ?_)
   subst hv'
   refine At.copyStrRow (i := 0) (o := 0) Tryd.underlying38 Tryd.sizeOf5 rfl rfl rfl (by rw [hZ]; show 8 ≤ _; omega) (by rw [hZ]; show 0 + 8 ≤ _; omega) rfl ?_
   simp only [sc0, scS]
   rw [svM_of t L [70, 85, 82, 82, 79, 87, 83, 86] rfl]
   rw [show (svZ t L).length = (svM t L).length from by rw [hZ, hM]]
   refine tE ?_
   refine tR ?_
   refine tM rfl rfl ?_
   refine tM rfl rfl ?_
   refine At.callP (fun w hw => (by have := svSum_p _ (svM t L) L.length w (ht.mod hw.mod) (row_rd (hw.row (i := 0) rfl) (by decide)) (by omega) (by omega); rwa [svM_sum] at this)) Tryd.call54 rfl rfl ?_
   refine tA rfl rfl ?_
   refine At.nil ?_
   refine At.rowCap (i := 0) rfl (fun hcz => ?_)
   refine At.thenN ?_
   refine At.seq ?_
   apply At.any (t := 7)
   · rfl
   refine KAt.pin (fun w hw => hw.drop (List.Sublist.cons _ (List.Sublist.cons _ (List.Sublist.refl _)))) ?_
   refine KAt.take 0 (Val.move rfl) rfl rfl rfl rfl (fun w hw => hw.drop (List.Sublist.cons _ (List.Sublist.cons _ (List.Sublist.refl _)))) (by decide +kernel) ?_
   refine KAt.take 1 (Val.cutSl (b := bz) (o := 0) (lo := some (.const (.int .i64 20))) (hi := some (.const (.int .i64 24))) 20 24 20 4 (cz - 20) Tryd.underlying38 Tryd.sizeOf5 rfl ⟨_, _, rfl, by omega, by omega⟩ ⟨_, _, rfl, by omega, by omega⟩ (by omega) (by omega) (by rw [if_neg (by omega)]) rfl rfl) rfl rfl rfl rfl (fun w hw => hw.drop (List.Sublist.cons _ (List.Sublist.cons _ (List.Sublist.refl _)))) (by decide +kernel) ?_
   refine KAt.take 2 (Val.move rfl) rfl rfl rfl rfl (fun w hw => hw.drop (List.Sublist.cons _ (List.Sublist.cons _ (List.Sublist.refl _)))) (by decide +kernel) ?_
   refine KAt.take 3 (Val.toU Tryd.underlying71 Tryd.underlying65 rfl (by omega) (by have := (svSum t L).isLt; show ((svSum t L).toNat : Int) < _; omega)) rfl rfl rfl rfl (fun w hw => hw.drop (List.Sublist.cons _ (List.Sublist.cons _ (List.Sublist.refl _)))) (by decide +kernel) ?_
   rw [show Value.int .u64 ((sumOn 0 (hd20 t L.length ++ spB L)).toNat : Int) = b64 (BitVec.ofNat 64 (svSum t L).toNat) from nat_b64 (n := (svSum t L).toNat) (by have := (svSum t L).isLt; omega)]
   refine KAt.only 4 rfl (by decide +kernel) ?_
   refine At.buildSl (fun a ha => by simp only [List.map_toArray, List.map_cons, List.map_nil, ha.eval (x := (.tmp 67)) rfl]; try rfl) (bs_83_1 _ ) rfl (fun b16 => ?_)
   refine At.nil ?_
   refine KAt.go (fun w hw => hw.drop (List.Sublist.cons _ (List.Sublist.cons _ (List.Sublist.cons _ (List.Sublist.refl _))))) ?_
   refine KAt.only 5 rfl (by decide +kernel) ?_
   refine At.callN (fun w hw => (show NewRow Tryd.prog 53 _ 5 1 (le 8 (svSum t L).toNat).length ((le 8 (svSum t L).toNat).map bv) w from by have := bytes_n _ [BitVec.ofNat 64 (svSum t L).toNat] w ((hw.blk (i := 0) rfl).words rfl) (by simp); rwa [show bytesW [BitVec.ofNat 64 (svSum t L).toNat] = le 8 (svSum t L).toNat from by rw [show bytesW [BitVec.ofNat 64 (svSum t L).toNat] = le 8 (BitVec.ofNat 64 (svSum t L).toNat).toNat ++ [] from rfl, List.append_nil, ofNat_toNat (by have := (svSum t L).isLt; omega)]] at this)) Tryd.call53 rfl rfl (fun v17 => ?_)
   refine At.nil ?_
   refine KAt.go (fun w hw => hw.drop (List.Sublist.cons _ (List.Sublist.cons _ (List.Sublist.cons _ (List.Sublist.cons _ (List.Sublist.refl _)))))) ?_
   refine KAt.only 6 rfl (by decide +kernel) ?_
   refine At.copyCutRow (i := 2) (j := 0) (o := 20) (m := 4) (s := le 8 (svSum t L).toNat) Tryd.underlying38 Tryd.sizeOf5 rfl rfl rfl rfl (by rw [le_length]; decide) (by decide) (by omega) rfl ?_
   simp only [sc0, scS]
   rw [svB_of, show (svM t L).length = (svB t L).length from by rw [hM, svB_length]]
   refine At.nil ?_
   refine KAt.go (fun w hw => hw.drop (List.Sublist.cons _ (List.Sublist.cons _ (List.Sublist.cons _ (List.Sublist.cons _ (List.Sublist.refl _)))))) ?_
   refine KAt.done (by decide +kernel) ?_
   refine At.thenN ?_
   refine tR ?_
   refine tM rfl rfl ?_
   refine tA rfl rfl ?_
   refine tA rfl rfl ?_
   refine tE ?_
   refine At.retC ?_
   refine At.ret2 (.inl rfl) rfl rfl rfl rfl (fun w hw => ?_)
   exact ⟨_, by rw [svE_T hg], by rw [svP_T hg]; exact (hw.drop (List.singleton_sublist.2 (List.mem_of_getElem? (i := 2) rfl))).f0⟩
end Go.Proofs.YtpihenmdkoojdaaDoor
set_option linter.unusedVariables false
set_option linter.unusedSimpArgs false
namespace Go.Proofs.YtpihenmdkoojdaaDoor
open Go Go.Wk
theorem must_T (e : Int) (w : World) :
    PureC Tryd.prog 72 [.bool true, .int .i64 e] (.tuple #[]) w := by
 refine enter0 Tryd.func72 rfl Tryd.ntmps72 rfl ?_
 simp only [envOf]
 refine tR ?_
 refine tM rfl rfl ?_
 refine At.val (Val.not rfl) rfl rfl rfl ?_
 refine tE ?_
 refine At.condF rfl ?_
 refine At.skipC ?_
 refine At.ret0 (.inr rfl) rfl rfl  (fun w hw => ?_)
 exact ⟨rfl, hw.mod⟩
theorem must_F (e : Int) (w : World) :
    Throws0 Tryd.prog 72 [.bool false, .int .i64 e] (brk 133 e) w := by
 refine enter0 Tryd.func72 rfl Tryd.ntmps72 rfl ?_
 simp only [envOf]
 refine tR ?_
 refine tM rfl rfl ?_
 refine At.val (Val.not rfl) rfl rfl rfl ?_
 refine tE ?_
 refine At.condT rfl ?_
 refine At.region ?_
 refine tM rfl rfl ?_
 refine At.val (Val.build (fun a ha => by simp only [List.map_toArray, List.map_cons, List.map_nil, ha.eval (x := (.tmp 6)) rfl] <;> rfl) (bld_133_0 _ )) rfl rfl rfl ?_
 refine At.val (Val.mkIface Tryd.underlying133 rfl) rfl rfl rfl ?_
 refine At.panicOp rfl ?_
 refine At.fail rfl (fun w hw => ?_)
 exact ⟨rfl, hw.mod⟩
theorem caughtSaved_idle (b1' b2' : Nat) (w : World) :
    Idle Tryd.prog 71 [.pointer (some ⟨b1', 0, none⟩), .pointer (some ⟨b2', 0, none⟩)] w := by
 refine CallsD.mono (enterC (v := .nilIface) (um' := .returning) (R := fun e w' => e = .returned (.tuple #[]) ∧ Mod (fun _ => False) w w') (fun _ => False) [] Tryd.func71 rfl Tryd.ntmps71 rfl rfl ⟨by simp, by simp, by simp, Mod.refl _ _⟩ (fun c₀ cs hu => .inr ⟨by simp [recoverD, hu], rfl, rfl⟩) ?_) (fun e u' w' h => ⟨h.2.1, h.1, h.2.2⟩)
 simp only [envOf]
 refine At.block ?_
 refine tR ?_
 refine At.val (Val.ifNilNil (by kernel_rfl) rfl) rfl rfl rfl ?_
 refine tE ?_
 refine At.condT rfl ?_
 refine At.region ?_
 refine tA rfl rfl ?_
 refine At.nil ?_
 refine At.blkN ?_
 refine At.ret0 (.inr rfl) rfl rfl  (fun w hw => ?_)
 exact ⟨rfl, hw.mod⟩
theorem caughtSaved_pan (b1' b2' : Nat) (cs : List Value) (x : Value) (why : Int) (w : World) (h1 : Holds w b1' 76 cs) (hl : cs.length = 2) (h2 : Holds w b2' 35 [x]) (hne : b1' ≠ b2') :
    Catches Tryd.prog 71 [.pointer (some ⟨b1', 0, none⟩), .pointer (some ⟨b2', 0, none⟩)] (brk 133 why) (blk b1' 76 cs) (blk b2' 35 [x]) (blk b1' 76 [Value.int .u32 0, Value.slice none 0 0]) (blk b2' 35 [.int .i64 why]) w := by
 refine CallsD.mono (enterC (v := .iface 133 (.agg #[.int .i64 why])) (um' := .panicking [{ v := .iface 133 (.agg #[.int .i64 why]), recovered := true }]) (R := fun e w' => e = .returned (.tuple #[]) ∧ Rep w (feet [(blk b1' 76 cs), (blk b2' 35 [x])]) [(blk b1' 76 [Value.int .u32 0, Value.slice none 0 0]), (blk b2' 35 [.int .i64 why])] w') (feet [(blk b1' 76 cs), (blk b2' 35 [x])]) [(blk b1' 76 cs), (blk b2' 35 [x])] Tryd.func71 rfl Tryd.ntmps71 rfl rfl (Rep.start (by simp only [List.pairwise_cons, List.mem_singleton, forall_eq, List.not_mem_nil, false_implies, implies_true, List.Pairwise.nil, and_true]; exact fun b (hb1 : b = b1') (hb2 : b = b2') => hne (hb1.symm.trans hb2)) (fun r hr => by rcases List.mem_cons.1 hr with rfl | hr; exact h1; rcases List.mem_cons.1 hr with rfl | hr; exact h2; cases hr)) (fun c₀ cs hu => .inl (by simp [recoverD, hu])) ?_) (fun e u' w' h => ⟨h.2.1, by rw [h.1]; rfl, h.2.2⟩)
 simp only [envOf]
 refine At.block ?_
 refine tR ?_
 refine At.val (Val.ifHeldNil (by kernel_rfl) rfl) rfl rfl rfl ?_
 refine tE ?_
 refine At.condF rfl ?_
 refine tR ?_
 refine At.val (Val.assertIs Tryd.underlying133 rfl) rfl rfl rfl ?_
 refine At.val (Val.extract rfl rfl) rfl rfl rfl ?_
 refine At.val (Val.extract rfl rfl) rfl rfl rfl ?_
 refine tE ?_
 refine At.condT rfl ?_
 refine tR ?_
 refine At.alloc Tryd.zeroValue133 rfl rfl (fun b1 => ?_)
 refine At.storeAll (i := 0) Tryd.sizeOf133 rfl rfl rfl (by simp [Value.oneCell']) rfl rfl ?_
 simp only [sc0, scS]
 refine tE ?_
 refine tR ?_
 refine At.alloc Tryd.zeroValue76 rfl rfl (fun b2 => ?_)
 refine tE ?_
 refine At.mid 7 6 [blk b2 76 [Value.int .u32 0, Value.slice none 0 0], blk b1 133 [_], blkP b1' 76 (fun _ => True), blk b2' 35 ([x])] [blk b2 76 [Value.int .u32 0, Value.slice none 0 0], blk b1 133 [_], blk b1' 76 [Value.int .u32 0, Value.slice none 0 0], blk b2' 35 ([x])] rfl (by decide +kernel) (by decide) rfl rfl (fun w hw => hw.blkP (i := 2) (fun _ => True) rfl trivial) (fun w hw => hw.blkP (i := 2) (fun _ => True) rfl trivial) ?_
 simp only [List.take_succ_cons, List.take_zero, List.drop_succ_cons, List.drop_zero]
 refine PAt.val (Val.move rfl) rfl rfl rfl rfl ?_
 refine PAt.val (Val.move rfl) rfl rfl rfl rfl ?_
 refine PAt.val (Val.loadAll (i := 0) Tryd.isAgg76 Tryd.sizeOf76 rfl rfl rfl) rfl rfl rfl rfl ?_
 refine PAt.val (Val.field 0 rfl fo_133_0 rfl) rfl rfl rfl rfl ?_
 refine PAt.val (Val.load (i := 1) Tryd.isAgg35 rfl rfl rfl) rfl rfl rfl rfl ?_
 refine PAt.val (Val.nilCheck rfl) rfl rfl rfl rfl ?_
 refine PAt.midS (fun a' w' ha' hw' => storeAll_step (i := 2) Tryd.sizeOf76 rfl rfl rfl (by simp [Value.oneCell']) rfl hl a' w' ha' hw') rfl rfl ?_
 refine PAt.fin ?_
 refine At.val (Val.nilCheck rfl) rfl rfl rfl ?_
 refine At.store (i := 3) Tryd.sizeOf35 rfl rfl rfl rfl (by first | decide | simp) ?_
 simp only [sc0, scS]
 refine At.nil ?_
 refine At.drop 0 ?_
 refine At.drop 0 ?_
 simp only [ec0, ecS]
 refine At.blkN ?_
 refine At.ret0 (.inr rfl) rfl rfl  (fun w hw => ?_)
 exact ⟨rfl, hw⟩
end Go.Proofs.YtpihenmdkoojdaaDoor
set_option linter.unusedVariables false
set_option linter.unusedSimpArgs false
namespace Go.Proofs.YtpihenmdkoojdaaDoor
open Go Go.Wk
theorem eyeNumber_p (b L o c at' n : Nat) (l : List UInt8) (w : World) (hh : Holds w b 126 (eyeC L o l.length c at')) (hb : Bytes w (some ⟨L, o, none⟩) l) (hne : L ≠ b) (hc : l.length ≤ c) (hm : l.length ≤ 140737488355328) (hn : at' + n ≤ l.length) (h8 : n ≤ 8) :
    Upd Tryd.prog 74 [.pointer (some ⟨b, 0, none⟩), .int .i64 (n : Int)] (blk b 126 (eyeC L o l.length c at')) (.int .u64 (num l at' n : Nat)) (blk b 126 (eyeC L o l.length c (at' + n))) w := by
 refine enter (feet [(blk b 126 (eyeC L o l.length c at'))]) [(blk b 126 (eyeC L o l.length c at'))] Tryd.func74 rfl Tryd.ntmps74 rfl (Rep.one hh) ?_
 have hS : ¬ feet [(blk b 126 (eyeC L o l.length c at'))] L := fun ⟨r, hr, hx⟩ => by rcases List.mem_singleton.1 hr with rfl; exact hne hx
 simp only [envOf]
 refine tR ?_
 refine tA rfl rfl ?_
 refine tE ?_
 refine tR ?_
 refine tA rfl rfl ?_
 refine tE ?_
 refine At.seq ?_
 refine tR ?_
 refine tM rfl rfl ?_
 refine tM rfl rfl ?_
 refine tE ?_
 refine At.block ?_
 skip
 refine At.loop (σ := Nat) (fun k => k ≤ n) (fun k => [(0, .pointer (some ⟨b, 0, none⟩)), (1, .int .i64 (n : Int)), (5, .int .u64 (num l at' k : Nat)), (7, .int .i64 (n : Int)), (8, .int .i64 (k : Int))]) (fun k => [blk b 126 (eyeC L o l.length c at')]) (fun k => n - k) 0 (Nat.zero_le _) (Sub.cons rfl (Sub.cons rfl (Sub.cons (congrArg (fun z => some (Value.int IntKind.u64 z)) (by rw [num_zero]; rfl)) (Sub.cons rfl (Sub.cons rfl Sub.nil))))) (List.Perm.refl _) ?_
 intro k hs
 refine tR ?_
 refine At.val (Val.bin rfl rfl rfl) rfl rfl rfl ?_
 refine tE ?_
 refine At.seq ?_
 refine At.cond rfl (fun h1 => ?_) (fun h1 => ?_)
 ·skip
  have hk : k < n := by have := h1; simp at this; omega
  obtain ⟨u, hu⟩ : ∃ u, l[at' + k]? = some u := ⟨_, List.getElem?_eq_getElem (by omega)⟩
  obtain ⟨b', o', hbo, hcell⟩ := hb _ _ hu
  simp only [Option.some.injEq, Addr.mk.injEq] at hbo
  obtain ⟨rfl, rfl, _⟩ := hbo
  refine At.skipC ?_
  refine At.thenN ?_
  refine At.seq ?_
  refine At.block ?_
  refine tR ?_
  refine tM rfl rfl ?_
  refine tA rfl rfl ?_
  refine tE ?_
  refine At.quiet rfl (by decide +kernel) ?_
  refine qM rfl rfl ?_
  refine qM rfl rfl ?_
  refine QAt.val (Val.nilCheck rfl) rfl rfl rfl ?_
  refine QAt.val (Val.field 0 rfl fo_126_0 rfl) rfl rfl rfl ?_
  refine QAt.val (Val.load (i := 0) Tryd.isAgg38 rfl rfl rfl) rfl rfl rfl ?_
  refine qM rfl rfl ?_
  refine QAt.val (Val.nilCheck rfl) rfl rfl rfl ?_
  refine QAt.val (Val.field 1 rfl fo_126_1 rfl) rfl rfl rfl ?_
  refine QAt.val (Val.load (i := 0) Tryd.isAgg3 rfl rfl rfl) rfl rfl rfl ?_
  refine qM rfl rfl ?_
  refine QAt.val (Val.bin rfl rfl rfl) rfl rfl rfl ?_
  rw [wrap_i64 (n := (at' : Int) + (k : Int)) (by omega) (by omega)]
  refine QAt.val (Val.indexSl (o + (at' + k)) (by omega) Tryd.underlying38 Tryd.sizeOf5 rfl rfl (by omega) (by omega)) rfl rfl rfl ?_
  refine QAt.val (Val.loadOld Tryd.isAgg5 rfl hcell hS) rfl rfl rfl ?_
  refine QAt.val (Val.conv Tryd.underlying5 Tryd.underlying65 rfl) rfl rfl rfl ?_
  rw [wrap_u64 (n := (u.toNat : Int)) (by omega) (by have := u.toNat_lt; omega)]
  refine qM rfl rfl ?_
  refine QAt.val (Val.bin rfl rfl rfl) rfl rfl rfl ?_
  rw [wrap_i64 (n := 8 * (k : Int)) (by omega) (by omega)]
  refine QAt.val (Val.shl rfl rfl (by omega)) rfl rfl rfl ?_
  refine QAt.val (Val.bin rfl rfl rfl) rfl rfl rfl ?_
  rw [num_or hu (by omega)]
  refine QAt.val (Val.assign rfl) rfl rfl rfl ?_
  refine QAt.fin ?_
  refine At.blkN ?_
  refine At.thenN ?_
  refine At.region ?_
  refine At.val (Val.bin rfl rfl rfl) rfl rfl rfl ?_
  refine tM rfl rfl ?_
  refine tE ?_
  exact At.again (k + 1) (by omega) (by omega) (Sub.cons rfl (Sub.cons rfl (Sub.cons rfl (Sub.cons rfl (Sub.cons (congrArg (fun z => some (Value.int IntKind.i64 z)) (wrap_i64 (by omega) (by omega))) Sub.nil))))) (List.Perm.refl _)
 ·skip
  have hk : k = n := by have := h1; simp at this; omega
  refine At.exitC ?_
  refine At.thenX ?_
  refine At.thenX ?_
  refine At.blkX ?_
  refine At.thenN ?_
  refine tR ?_
  refine tM rfl rfl ?_
  refine At.val (Val.nilCheck rfl) rfl rfl rfl ?_
  refine At.val (Val.field 1 rfl fo_126_1 rfl) rfl rfl rfl ?_
  refine At.val (Val.load (i := 0) Tryd.isAgg3 rfl rfl rfl) rfl rfl rfl ?_
  refine tM rfl rfl ?_
  refine At.val (Val.bin rfl rfl rfl) rfl rfl rfl ?_
  rw [wrap_i64 (n := (at' : Int) + (n : Int)) (by omega) (by omega)]
  refine At.val (Val.nilCheck rfl) rfl rfl rfl ?_
  refine At.val (Val.field 1 rfl fo_126_1 rfl) rfl rfl rfl ?_
  refine At.store (i := 0) Tryd.sizeOf3 rfl rfl rfl rfl (by simp) ?_
  simp only [sc0, scS]
  refine At.nil ?_
  rw [show ([Value.slice (some ⟨L, o, none⟩) l.length c, Value.int .i64 ((at' : Int) + (n : Int))] : List Value) = eyeC L o l.length c (at' + n) from by simp]
  refine At.thenN ?_
  refine tR ?_
  refine tM rfl rfl ?_
  refine tA rfl rfl ?_
  refine tE ?_
  refine At.retC ?_
  refine At.ret1 (.inl rfl) rfl rfl rfl (fun w hw => ?_)
  exact ⟨by rw [hk], hw⟩
theorem eyeHalf_p (b L o c at' : Nat) (l : List UInt8) (w : World) (hh : Holds w b 126 (eyeC L o l.length c at')) (hb : Bytes w (some ⟨L, o, none⟩) l) (hne : L ≠ b) (hc : l.length ≤ c) (hm : l.length ≤ 140737488355328) (hn : at' + 4 ≤ l.length) :
    Upd Tryd.prog 76 [.pointer (some ⟨b, 0, none⟩)] (blk b 126 (eyeC L o l.length c at')) (.int .i64 (num l at' 4 : Nat)) (blk b 126 (eyeC L o l.length c (at' + 4))) w := by
 refine enter (feet [(blk b 126 (eyeC L o l.length c at'))]) [(blk b 126 (eyeC L o l.length c at'))] Tryd.func76 rfl Tryd.ntmps76 rfl (Rep.one hh) ?_
 simp only [envOf]
 refine tR ?_
 refine tA rfl rfl ?_
 refine tE ?_
 refine tR ?_
 refine tM rfl rfl ?_
 refine At.call1 0 rfl (fun w hw hr => eyeNumber_p b L o c at' 4 l w hr (fun k u hk => by obtain ⟨b', o', h1, h2⟩ := hb k u hk; refine ⟨b', o', h1, hw.oldCell h2 ?_⟩; rintro ⟨r, hr', hx⟩; rcases List.mem_singleton.1 hr' with rfl; simp only [Option.some.injEq, Addr.mk.injEq] at h1; exact hne (h1.1.trans hx)) hne hc hm hn (by decide)) Tryd.call74 rfl rfl ?_
 simp only [sc0, scS]
 refine At.val (Val.conv Tryd.underlying65 Tryd.underlying3 rfl) rfl rfl rfl ?_
 refine tA rfl rfl ?_
 refine tE ?_
 refine At.retC ?_
 refine At.ret1 (.inl rfl) rfl rfl rfl (fun w hw => ?_)
 exact ⟨by rw [wrap_i64 (by omega) (by have := num_lt (l := l) at' 4; omega)], hw⟩
theorem eyeZeros_T (b L o c at' n : Nat) (l : List UInt8) (why : Int) (w : World) (hh : Holds w b 126 (eyeC L o l.length c at')) (hb : Bytes w (some ⟨L, o, none⟩) l) (hne : L ≠ b) (hc : l.length ≤ c) (hm : l.length ≤ 140737488355328) (hn : at' + n ≤ l.length) (hz : allZero ((l.drop at').take n)) :
    Upd Tryd.prog 75 [.pointer (some ⟨b, 0, none⟩), .int .i64 (n : Int), .int .i64 why] (blk b 126 (eyeC L o l.length c at')) (.tuple #[]) (blk b 126 (eyeC L o l.length c (at' + n))) w := by
 refine enter (feet [(blk b 126 (eyeC L o l.length c at'))]) [(blk b 126 (eyeC L o l.length c at'))] Tryd.func75 rfl Tryd.ntmps75 rfl (Rep.one hh) ?_
 have hS : ¬ feet [(blk b 126 (eyeC L o l.length c at'))] L := fun ⟨r, hr, hx⟩ => by rcases List.mem_singleton.1 hr with rfl; exact hne hx
 have hX : ((l.drop at').take n).length = n := by simp; omega
 have hbX := cut_bytes (n := n) hb hc hn
 simp only [envOf]
 refine At.seq ?_
 refine At.seq ?_
 refine At.quiet rfl (by decide +kernel) ?_
 refine qM rfl rfl ?_
 refine QAt.val (Val.nilCheck rfl) rfl rfl rfl ?_
 refine QAt.val (Val.field 0 rfl fo_126_0 rfl) rfl rfl rfl ?_
 refine QAt.val (Val.load (i := 0) Tryd.isAgg38 rfl rfl rfl) rfl rfl rfl ?_
 refine qM rfl rfl ?_
 refine QAt.val (Val.nilCheck rfl) rfl rfl rfl ?_
 refine QAt.val (Val.field 1 rfl fo_126_1 rfl) rfl rfl rfl ?_
 refine QAt.val (Val.load (i := 0) Tryd.isAgg3 rfl rfl rfl) rfl rfl rfl ?_
 refine qM rfl rfl ?_
 refine QAt.val (Val.nilCheck rfl) rfl rfl rfl ?_
 refine QAt.val (Val.field 1 rfl fo_126_1 rfl) rfl rfl rfl ?_
 refine QAt.val (Val.load (i := 0) Tryd.isAgg3 rfl rfl rfl) rfl rfl rfl ?_
 refine qM rfl rfl ?_
 refine QAt.val (Val.bin rfl rfl rfl) rfl rfl rfl ?_
 rw [wrap_i64 (n := (at' : Int) + (n : Int)) (by omega) (by omega)]
 refine QAt.val (Val.cutSl at' (at' + n) (if c = at' then o else o + at' * 1) n (c - at') Tryd.underlying38 Tryd.sizeOf5 rfl ⟨_, _, rfl, by omega, by omega⟩ ⟨_, _, rfl, by omega, by omega⟩ (by omega) (by omega) rfl (by omega) rfl) rfl rfl rfl ?_
 refine QAt.val (Val.len (bt := #[]) Tryd.underlying38 rfl) rfl rfl rfl ?_
 refine qM rfl rfl ?_
 refine QAt.fin ?_
 refine At.thenN ?_
 refine At.block ?_
 skip
 refine At.loop (σ := Nat) (fun k => k ≤ n) (fun k => [(0, .pointer (some ⟨b, 0, none⟩)), (1, .int .i64 (n : Int)), (2, .int .i64 why), (22, .slice (some ⟨L, if c = at' then o else o + at' * 1, none⟩) n (c - at')), (23, .int .i64 (n : Int)), (24, .int .i64 (k : Int))]) (fun k => [blk b 126 (eyeC L o l.length c at')]) (fun k => n - k) 0 (Nat.zero_le _) (Sub.cons rfl (Sub.cons rfl (Sub.cons rfl (Sub.cons rfl (Sub.cons rfl (Sub.cons rfl Sub.nil)))))) (List.Perm.refl _) ?_
 intro k hs
 refine tR ?_
 refine At.val (Val.bin rfl rfl rfl) rfl rfl rfl ?_
 refine tE ?_
 refine At.seq ?_
 refine At.cond rfl (fun h1 => ?_) (fun h1 => ?_)
 ·skip
  have hk : k < n := by have := h1; simp at this; omega
  obtain ⟨u, hu⟩ : ∃ u, ((l.drop at').take n)[k]? = some u := ⟨_, List.getElem?_eq_getElem (by omega)⟩
  obtain ⟨b', o', hbo, hcell⟩ := hbX _ _ hu
  simp only [Option.some.injEq, Addr.mk.injEq] at hbo
  obtain ⟨rfl, rfl, _⟩ := hbo
  refine At.skipC ?_
  refine At.thenN ?_
  refine At.seq ?_
  refine At.block ?_
  refine tR ?_
  refine At.val (Val.indexSl ((if c = at' then o else o + at' * 1) + k) (by omega) Tryd.underlying38 Tryd.sizeOf5 rfl rfl (by omega) (by omega)) rfl rfl rfl ?_
  refine At.val (Val.loadOld Tryd.isAgg5 rfl hcell hS) rfl rfl rfl ?_
  refine tA rfl rfl ?_
  refine tE ?_
  refine At.region ?_
  refine tM rfl rfl ?_
  refine At.val (Val.bin rfl rfl rfl) rfl rfl rfl ?_
  refine tM rfl rfl ?_
  refine At.split (t := 29) rfl (fun h2 => ?_) (fun h2 => ?_)
  ·skip
   have hu0 : u = 0 := zero_byte (by simpa using h2)
   refine At.callP (fun w hw => must_T _ w) Tryd.call72 rfl rfl ?_
   refine At.nil ?_
   refine At.blkN ?_
   refine At.thenN ?_
   refine At.region ?_
   refine At.val (Val.bin rfl rfl rfl) rfl rfl rfl ?_
   refine tM rfl rfl ?_
   refine tE ?_
   exact At.again (k + 1) (by omega) (by omega) (Sub.cons rfl (Sub.cons rfl (Sub.cons rfl (Sub.cons rfl (Sub.cons rfl (Sub.cons (congrArg (fun z => some (Value.int IntKind.i64 z)) (wrap_i64 (by omega) (by omega))) Sub.nil)))))) (List.Perm.refl _)
  ·skip
   rw [allZero_at hu hz] at h2; exact absurd h2 (by decide)
 ·skip
  have hk : k = n := by have := h1; simp at this; omega
  refine At.exitC ?_
  refine At.thenX ?_
  refine At.thenX ?_
  refine At.blkX ?_
  refine At.thenN ?_
  refine At.region ?_
  refine tM rfl rfl ?_
  refine At.val (Val.nilCheck rfl) rfl rfl rfl ?_
  refine At.val (Val.field 1 rfl fo_126_1 rfl) rfl rfl rfl ?_
  refine At.val (Val.load (i := 0) Tryd.isAgg3 rfl rfl rfl) rfl rfl rfl ?_
  refine tM rfl rfl ?_
  refine At.val (Val.bin rfl rfl rfl) rfl rfl rfl ?_
  rw [wrap_i64 (n := (at' : Int) + (n : Int)) (by omega) (by omega)]
  refine At.val (Val.nilCheck rfl) rfl rfl rfl ?_
  refine At.val (Val.field 1 rfl fo_126_1 rfl) rfl rfl rfl ?_
  refine At.store (i := 0) Tryd.sizeOf3 rfl rfl rfl rfl (by simp) ?_
  simp only [sc0, scS]
  refine At.nil ?_
  rw [show ([Value.slice (some ⟨L, o, none⟩) l.length c, Value.int .i64 ((at' : Int) + (n : Int))] : List Value) = eyeC L o l.length c (at' + n) from by simp]
  refine At.ret0 (.inr rfl) rfl rfl  (fun w hw => ?_)
  exact ⟨rfl, hw⟩
theorem eyeZeros_F (b L o c at' n : Nat) (l : List UInt8) (why : Int) (w : World) (hh : Holds w b 126 (eyeC L o l.length c at')) (hb : Bytes w (some ⟨L, o, none⟩) l) (hne : L ≠ b) (hc : l.length ≤ c) (hm : l.length ≤ 140737488355328) (hn : at' + n ≤ l.length) (hz : ¬ allZero ((l.drop at').take n)) :
    Throws1 Tryd.prog 75 [.pointer (some ⟨b, 0, none⟩), .int .i64 (n : Int), .int .i64 why] (blk b 126 (eyeC L o l.length c at')) (brk 133 why) w := by
 refine enter (feet [(blk b 126 (eyeC L o l.length c at'))]) [(blk b 126 (eyeC L o l.length c at'))] Tryd.func75 rfl Tryd.ntmps75 rfl (Rep.one hh) ?_
 have hS : ¬ feet [(blk b 126 (eyeC L o l.length c at'))] L := fun ⟨r, hr, hx⟩ => by rcases List.mem_singleton.1 hr with rfl; exact hne hx
 have hX : ((l.drop at').take n).length = n := by simp; omega
 have hbX := cut_bytes (n := n) hb hc hn
 simp only [envOf]
 refine At.seq ?_
 refine At.seq ?_
 refine At.quiet rfl (by decide +kernel) ?_
 refine qM rfl rfl ?_
 refine QAt.val (Val.nilCheck rfl) rfl rfl rfl ?_
 refine QAt.val (Val.field 0 rfl fo_126_0 rfl) rfl rfl rfl ?_
 refine QAt.val (Val.load (i := 0) Tryd.isAgg38 rfl rfl rfl) rfl rfl rfl ?_
 refine qM rfl rfl ?_
 refine QAt.val (Val.nilCheck rfl) rfl rfl rfl ?_
 refine QAt.val (Val.field 1 rfl fo_126_1 rfl) rfl rfl rfl ?_
 refine QAt.val (Val.load (i := 0) Tryd.isAgg3 rfl rfl rfl) rfl rfl rfl ?_
 refine qM rfl rfl ?_
 refine QAt.val (Val.nilCheck rfl) rfl rfl rfl ?_
 refine QAt.val (Val.field 1 rfl fo_126_1 rfl) rfl rfl rfl ?_
 refine QAt.val (Val.load (i := 0) Tryd.isAgg3 rfl rfl rfl) rfl rfl rfl ?_
 refine qM rfl rfl ?_
 refine QAt.val (Val.bin rfl rfl rfl) rfl rfl rfl ?_
 rw [wrap_i64 (n := (at' : Int) + (n : Int)) (by omega) (by omega)]
 refine QAt.val (Val.cutSl at' (at' + n) (if c = at' then o else o + at' * 1) n (c - at') Tryd.underlying38 Tryd.sizeOf5 rfl ⟨_, _, rfl, by omega, by omega⟩ ⟨_, _, rfl, by omega, by omega⟩ (by omega) (by omega) rfl (by omega) rfl) rfl rfl rfl ?_
 refine QAt.val (Val.len (bt := #[]) Tryd.underlying38 rfl) rfl rfl rfl ?_
 refine qM rfl rfl ?_
 refine QAt.fin ?_
 refine At.thenN ?_
 refine At.block ?_
 skip
 refine At.loop (σ := Nat) (fun k => k ≤ n ∧ allZero (((l.drop at').take n).take k)) (fun k => [(0, .pointer (some ⟨b, 0, none⟩)), (1, .int .i64 (n : Int)), (2, .int .i64 why), (22, .slice (some ⟨L, if c = at' then o else o + at' * 1, none⟩) n (c - at')), (23, .int .i64 (n : Int)), (24, .int .i64 (k : Int))]) (fun k => [blk b 126 (eyeC L o l.length c at')]) (fun k => n - k) 0 ⟨Nat.zero_le _, by simp [allZero]⟩ (Sub.cons rfl (Sub.cons rfl (Sub.cons rfl (Sub.cons rfl (Sub.cons rfl (Sub.cons rfl Sub.nil)))))) (List.Perm.refl _) ?_
 intro k hs
 refine tR ?_
 refine At.val (Val.bin rfl rfl rfl) rfl rfl rfl ?_
 refine tE ?_
 refine At.seq ?_
 refine At.cond rfl (fun h1 => ?_) (fun h1 => ?_)
 ·skip
  have hk : k < n := by have := h1; simp at this; omega
  obtain ⟨u, hu⟩ : ∃ u, ((l.drop at').take n)[k]? = some u := ⟨_, List.getElem?_eq_getElem (by omega)⟩
  obtain ⟨b', o', hbo, hcell⟩ := hbX _ _ hu
  simp only [Option.some.injEq, Addr.mk.injEq] at hbo
  obtain ⟨rfl, rfl, _⟩ := hbo
  refine At.skipC ?_
  refine At.thenN ?_
  refine At.seq ?_
  refine At.block ?_
  refine tR ?_
  refine At.val (Val.indexSl ((if c = at' then o else o + at' * 1) + k) (by omega) Tryd.underlying38 Tryd.sizeOf5 rfl rfl (by omega) (by omega)) rfl rfl rfl ?_
  refine At.val (Val.loadOld Tryd.isAgg5 rfl hcell hS) rfl rfl rfl ?_
  refine tA rfl rfl ?_
  refine tE ?_
  refine At.region ?_
  refine tM rfl rfl ?_
  refine At.val (Val.bin rfl rfl rfl) rfl rfl rfl ?_
  refine tM rfl rfl ?_
  refine At.split (t := 29) rfl (fun h2 => ?_) (fun h2 => ?_)
  ·skip
   have hu0 : u = 0 := zero_byte (by simpa using h2)
   refine At.callP (fun w hw => must_T _ w) Tryd.call72 rfl rfl ?_
   refine At.nil ?_
   refine At.blkN ?_
   refine At.thenN ?_
   refine At.region ?_
   refine At.val (Val.bin rfl rfl rfl) rfl rfl rfl ?_
   refine tM rfl rfl ?_
   refine tE ?_
   exact At.again (k + 1) ⟨by omega, by rw [List.take_add_one, hu]; intro x hx; rcases List.mem_append.1 hx with hx | hx; exact hs.2 x hx; simp at hx; rw [hx, hu0]⟩ (by omega) (Sub.cons rfl (Sub.cons rfl (Sub.cons rfl (Sub.cons rfl (Sub.cons rfl (Sub.cons (congrArg (fun z => some (Value.int IntKind.i64 z)) (wrap_i64 (by omega) (by omega))) Sub.nil)))))) (List.Perm.refl _)
  ·skip
   refine At.callT0 (fun w hw => must_F _ w) Tryd.call72 rfl ?_
   refine At.blkE ?_
   refine At.thenE ?_
   refine At.thenE ?_
   refine At.blkE ?_
   refine At.thenE ?_
   refine At.fail rfl (fun w hw => ?_)
   exact ⟨rfl, hw.drop (List.nil_sublist _)⟩
 ·skip
  have hk : k = n := by have := h1; simp at this; omega
  exact absurd (by have h0 := hs.2; rw [hk, List.take_of_length_le (by rw [hX]; exact Nat.le_refl _)] at h0; exact h0) hz
theorem eyeText_T (b L o c at' : Nat) (l : List UInt8) (s : ByteArray) (why : Int) (w : World) (hh : Holds w b 126 (eyeC L o l.length c at')) (hb : Bytes w (some ⟨L, o, none⟩) l) (hne : L ≠ b) (hc : l.length ≤ c) (hm : l.length ≤ 140737488355328) (hn : at' + s.data.toList.length ≤ l.length) (ht : ((l.drop at').take s.data.toList.length) = s.data.toList) :
    Upd Tryd.prog 73 [.pointer (some ⟨b, 0, none⟩), .string s, .int .i64 why] (blk b 126 (eyeC L o l.length c at')) (.tuple #[]) (blk b 126 (eyeC L o l.length c (at' + s.data.toList.length))) w := by
 refine enter (feet [(blk b 126 (eyeC L o l.length c at'))]) [(blk b 126 (eyeC L o l.length c at'))] Tryd.func73 rfl Tryd.ntmps73 rfl (Rep.one hh) ?_
 have hS : ¬ feet [(blk b 126 (eyeC L o l.length c at'))] L := fun ⟨r, hr, hx⟩ => by rcases List.mem_singleton.1 hr with rfl; exact hne hx
 have hs : s.size = s.data.toList.length := Array.length_toList.symm
 have hX : ((l.drop at').take s.data.toList.length).length = s.data.toList.length := by simp; omega
 have hbX := cut_bytes (n := s.data.toList.length) hb hc hn
 simp only [envOf]
 refine At.seq ?_
 refine At.tail 20 rfl (by decide +kernel) ?_
 simp only [List.take_succ_cons, List.take_zero, List.drop_succ_cons, List.drop_zero]
 refine qM rfl rfl ?_
 refine QAt.val (Val.nilCheck rfl) rfl rfl rfl ?_
 refine QAt.val (Val.field 0 rfl fo_126_0 rfl) rfl rfl rfl ?_
 refine QAt.val (Val.load (i := 0) Tryd.isAgg38 rfl rfl rfl) rfl rfl rfl ?_
 refine qM rfl rfl ?_
 refine QAt.val (Val.nilCheck rfl) rfl rfl rfl ?_
 refine QAt.val (Val.field 1 rfl fo_126_1 rfl) rfl rfl rfl ?_
 refine QAt.val (Val.load (i := 0) Tryd.isAgg3 rfl rfl rfl) rfl rfl rfl ?_
 refine qM rfl rfl ?_
 refine QAt.val (Val.nilCheck rfl) rfl rfl rfl ?_
 refine QAt.val (Val.field 1 rfl fo_126_1 rfl) rfl rfl rfl ?_
 refine QAt.val (Val.load (i := 0) Tryd.isAgg3 rfl rfl rfl) rfl rfl rfl ?_
 refine qM rfl rfl ?_
 refine QAt.val (Val.lenStr Tryd.underlying9 rfl) rfl rfl rfl ?_
 refine QAt.val (Val.bin rfl rfl rfl) rfl rfl rfl ?_
 rw [wrap_i64 (n := (at' : Int) + (s.size : Int)) (by omega) (by omega)]
 refine QAt.val (Val.cutSl at' (at' + s.size) (if c = at' then o else o + at' * 1) s.size (c - at') Tryd.underlying38 Tryd.sizeOf5 rfl ⟨_, _, rfl, by omega, by omega⟩ ⟨_, _, rfl, by omega, by omega⟩ (by omega) (by omega) rfl (by omega) rfl) rfl rfl rfl ?_
 refine QAt.val (Val.strOf (l := ((l.drop at').take s.data.toList.length)) Tryd.underlying38 Tryd.underlying5 Tryd.underlying9 rfl (by rw [hX, hs]) (fun w' hw' k u hk => by obtain ⟨b', o', h1, h2⟩ := hbX k u hk; refine ⟨b', o', h1, hw'.oldCell h2 ?_⟩; simp only [Option.some.injEq, Addr.mk.injEq] at h1; rw [← h1.1]; exact hS)) rfl rfl rfl ?_
 refine qM rfl rfl ?_
 refine QAt.val (Val.seq_ rfl rfl) rfl rfl rfl ?_
 rw [show (ByteArray.toList ⟨((l.drop at').take s.data.toList.length).toArray⟩ == s.toList) = true from by rw [ByteArray.toList_eq, ByteArray.toList_eq]; simpa using ht]
 refine qM rfl rfl ?_
 refine QAt.fin ?_
 refine At.callP (fun w hw => must_T _ w) Tryd.call72 rfl rfl ?_
 refine tE ?_
 refine At.region ?_
 refine tM rfl rfl ?_
 refine At.val (Val.nilCheck rfl) rfl rfl rfl ?_
 refine At.val (Val.field 1 rfl fo_126_1 rfl) rfl rfl rfl ?_
 refine At.val (Val.load (i := 0) Tryd.isAgg3 rfl rfl rfl) rfl rfl rfl ?_
 refine tM rfl rfl ?_
 refine At.val (Val.lenStr Tryd.underlying9 rfl) rfl rfl rfl ?_
 refine At.val (Val.bin rfl rfl rfl) rfl rfl rfl ?_
 rw [wrap_i64 (n := (at' : Int) + (s.size : Int)) (by omega) (by omega)]
 refine At.val (Val.nilCheck rfl) rfl rfl rfl ?_
 refine At.val (Val.field 1 rfl fo_126_1 rfl) rfl rfl rfl ?_
 refine At.store (i := 0) Tryd.sizeOf3 rfl rfl rfl rfl (by simp) ?_
 simp only [sc0, scS]
 refine At.nil ?_
 rw [show ([Value.slice (some ⟨L, o, none⟩) l.length c, Value.int .i64 ((at' : Int) + (s.size : Int))] : List Value) = eyeC L o l.length c (at' + s.data.toList.length) from by rw [hs, ← Int.natCast_add]]
 refine At.ret0 (.inr rfl) rfl rfl  (fun w hw => ?_)
 exact ⟨rfl, hw⟩
theorem eyeText_F (b L o c at' : Nat) (l : List UInt8) (s : ByteArray) (why : Int) (w : World) (hh : Holds w b 126 (eyeC L o l.length c at')) (hb : Bytes w (some ⟨L, o, none⟩) l) (hne : L ≠ b) (hc : l.length ≤ c) (hm : l.length ≤ 140737488355328) (hn : at' + s.data.toList.length ≤ l.length) (ht : ¬ ((l.drop at').take s.data.toList.length) = s.data.toList) :
    Throws1 Tryd.prog 73 [.pointer (some ⟨b, 0, none⟩), .string s, .int .i64 why] (blk b 126 (eyeC L o l.length c at')) (brk 133 why) w := by
 refine enter (feet [(blk b 126 (eyeC L o l.length c at'))]) [(blk b 126 (eyeC L o l.length c at'))] Tryd.func73 rfl Tryd.ntmps73 rfl (Rep.one hh) ?_
 have hS : ¬ feet [(blk b 126 (eyeC L o l.length c at'))] L := fun ⟨r, hr, hx⟩ => by rcases List.mem_singleton.1 hr with rfl; exact hne hx
 have hs : s.size = s.data.toList.length := Array.length_toList.symm
 have hX : ((l.drop at').take s.data.toList.length).length = s.data.toList.length := by simp; omega
 have hbX := cut_bytes (n := s.data.toList.length) hb hc hn
 simp only [envOf]
 refine At.seq ?_
 refine At.tail 20 rfl (by decide +kernel) ?_
 simp only [List.take_succ_cons, List.take_zero, List.drop_succ_cons, List.drop_zero]
 refine qM rfl rfl ?_
 refine QAt.val (Val.nilCheck rfl) rfl rfl rfl ?_
 refine QAt.val (Val.field 0 rfl fo_126_0 rfl) rfl rfl rfl ?_
 refine QAt.val (Val.load (i := 0) Tryd.isAgg38 rfl rfl rfl) rfl rfl rfl ?_
 refine qM rfl rfl ?_
 refine QAt.val (Val.nilCheck rfl) rfl rfl rfl ?_
 refine QAt.val (Val.field 1 rfl fo_126_1 rfl) rfl rfl rfl ?_
 refine QAt.val (Val.load (i := 0) Tryd.isAgg3 rfl rfl rfl) rfl rfl rfl ?_
 refine qM rfl rfl ?_
 refine QAt.val (Val.nilCheck rfl) rfl rfl rfl ?_
 refine QAt.val (Val.field 1 rfl fo_126_1 rfl) rfl rfl rfl ?_
 refine QAt.val (Val.load (i := 0) Tryd.isAgg3 rfl rfl rfl) rfl rfl rfl ?_
 refine qM rfl rfl ?_
 refine QAt.val (Val.lenStr Tryd.underlying9 rfl) rfl rfl rfl ?_
 refine QAt.val (Val.bin rfl rfl rfl) rfl rfl rfl ?_
 rw [wrap_i64 (n := (at' : Int) + (s.size : Int)) (by omega) (by omega)]
 refine QAt.val (Val.cutSl at' (at' + s.size) (if c = at' then o else o + at' * 1) s.size (c - at') Tryd.underlying38 Tryd.sizeOf5 rfl ⟨_, _, rfl, by omega, by omega⟩ ⟨_, _, rfl, by omega, by omega⟩ (by omega) (by omega) rfl (by omega) rfl) rfl rfl rfl ?_
 refine QAt.val (Val.strOf (l := ((l.drop at').take s.data.toList.length)) Tryd.underlying38 Tryd.underlying5 Tryd.underlying9 rfl (by rw [hX, hs]) (fun w' hw' k u hk => by obtain ⟨b', o', h1, h2⟩ := hbX k u hk; refine ⟨b', o', h1, hw'.oldCell h2 ?_⟩; simp only [Option.some.injEq, Addr.mk.injEq] at h1; rw [← h1.1]; exact hS)) rfl rfl rfl ?_
 refine qM rfl rfl ?_
 refine QAt.val (Val.seq_ rfl rfl) rfl rfl rfl ?_
 rw [show (ByteArray.toList ⟨((l.drop at').take s.data.toList.length).toArray⟩ == s.toList) = false from by rw [ByteArray.toList_eq, ByteArray.toList_eq]; simpa using ht]
 refine qM rfl rfl ?_
 refine QAt.fin ?_
 refine At.callT0 (fun w hw => must_F _ w) Tryd.call72 rfl ?_
 refine At.thenE ?_
 refine At.fail rfl (fun w hw => ?_)
 exact ⟨rfl, hw.drop (List.nil_sublist _)⟩
end Go.Proofs.YtpihenmdkoojdaaDoor
set_option linter.unusedVariables false
set_option linter.unusedSimpArgs false
namespace Go.Proofs.YtpihenmdkoojdaaDoor
open Go Go.Wk
theorem take_twoV {l : List UInt8} (a n m : Nat) : (l.drop a).take (n + m) = (l.drop a).take n ++ (l.drop (a + n)).take m := by rw [List.take_add, List.drop_drop]
theorem num_appV {a b m : List UInt8} {n x p : Nat} (e : m = a ++ (le n x ++ b)) (ha : a.length = p) (hx : x < 256 ^ n) : num m p n = x := by
  subst e; unfold num; rw [← ha, List.drop_left, List.take_left' (le_length n x), fromLe_le n x hx]
theorem num_extV {l m : List UInt8} {a n : Nat} (h : ∀ i, a ≤ i → i < a + n → l[i]? = m[i]?) : num l a n = num m a n := by
  unfold num
  congr 1
  apply List.ext_getElem?
  intro i
  rw [List.getElem?_take, List.getElem?_take]
  split
  · rw [List.getElem?_drop, List.getElem?_drop]; exact h _ (by omega) (by omega)
  · rfl
def svN (l : List UInt8) : Nat := num l 16 4
def svT (l : List UInt8) : BitVec 32 := BitVec.ofNat 32 (num l 8 4)
theorem svT_nat (l : List UInt8) : (svT l).toNat = num l 8 4 := by
  unfold svT; rw [BitVec.toNat_ofNat, Nat.mod_eq_of_lt (by have := num_lt (l := l) 8 4; simpa using this)]
theorem num_svT (l : List UInt8) : Value.int .u32 ((num l 8 4 : Nat) : Int) = b32 (svT l) := by
  show _ = Value.int .u32 ((svT l).toNat : Int); rw [svT_nat]
def spRec (l : List UInt8) (n : Nat) : List (Int × Int) := (List.range n).map fun j => (((num l (24 + 4 * j) 2 : Nat) : Int), ((num l (24 + 4 * j + 2) 2 : Nat) : Int))
theorem spRec_succ (l : List UInt8) (n : Nat) : spRec l (n + 1) = spRec l n ++ [(((num l (24 + 4 * n) 2 : Nat) : Int), ((num l (24 + 4 * n + 2) 2 : Nat) : Int))] := by
  unfold spRec; rw [List.range_succ, List.map_append]; rfl
theorem spRec_length (l : List UInt8) (n : Nat) : (spRec l n).length = n := by unfold spRec; simp
def segV (l : List UInt8) (n : Nat) : List UInt8 := (l.drop 24).take (4 * n)
theorem spB_rec {l : List UInt8} {n : Nat} (h : 24 + 4 * n ≤ l.length) : spB (spRec l n) = segV l n := by
  induction n with
  | zero => simp [spRec, spB, segV]
  | succ n ih =>
    rw [spRec_succ, spB_snoc, ih (by omega)]
    show segV l n ++ le 2 ((num l (24 + 4 * n) 2 : Nat) : Int).toNat ++ le 2 ((num l (24 + 4 * n + 2) 2 : Nat) : Int).toNat = _
    rw [Int.toNat_natCast, Int.toNat_natCast, le_num (by omega), le_num (by omega)]
    unfold segV
    rw [show 4 * (n + 1) = 4 * n + (2 + 2) by omega, take_twoV 24 (4 * n) (2 + 2), take_twoV (24 + 4 * n) 2 2, List.append_assoc]
def sumOf (l : List UInt8) : BitVec 32 := sumOn 0 (l.take 20 ++ segV l (svN l))
def OkSv (l : List UInt8) : Prop := 24 ≤ l.length ∧ (l.drop 0).take 8 = magic ∧ allZero ((l.drop 12).take 4) ∧ svN l ≤ 249 ∧ 24 + 4 * svN l ≤ l.length ∧ num l 20 4 = (sumOf l).toNat ∧ GoodSv (svT l) (spRec l (svN l))
noncomputable instance (l : List UInt8) : Decidable (OkSv l) := Classical.propDecidable _
noncomputable def oT (l : List UInt8) : BitVec 32 := if OkSv l then svT l else 0
noncomputable def oL (l : List UInt8) : List (Int × Int) := if OkSv l then spRec l (svN l) else []
noncomputable def oE (l : List UInt8) : Int := if OkSv l then 0 else 36
theorem oT_yes {l : List UInt8} (h : OkSv l) : oT l = svT l := if_pos h
theorem oL_yes {l : List UInt8} (h : OkSv l) : oL l = spRec l (svN l) := if_pos h
theorem oE_yes {l : List UInt8} (h : OkSv l) : oE l = 0 := if_pos h
theorem oT_no {l : List UInt8} (h : ¬ OkSv l) : oT l = 0 := if_neg h
theorem oL_no {l : List UInt8} (h : ¬ OkSv l) : oL l = [] := if_neg h
theorem oE_no {l : List UInt8} (h : ¬ OkSv l) : oE l = 36 := if_neg h
/-- The bytes of what a record says are the record's. -/
theorem hd20_take {l : List UInt8} (h24 : 24 ≤ l.length) (hm : (l.drop 0).take 8 = magic) (hz : allZero ((l.drop 12).take 4)) : hd20 (svT l) (svN l) = l.take 20 := by
  have e : l.take 20 = (l.drop 0).take 8 ++ (l.drop 8).take 4 ++ (l.drop 12).take 4 ++ (l.drop 16).take 4 := by
    have h1 := take_twoV (l := l) 0 8 12
    have h2 := take_twoV (l := l) 8 4 8
    have h3 := take_twoV (l := l) 12 4 4
    rw [List.drop_zero] at h1
    rw [show (20 : Nat) = 8 + 12 from rfl, h1, show (12 : Nat) = 4 + 8 from rfl, h2, show (8 : Nat) = 4 + 4 from rfl, h3]
    simp only [List.append_assoc, List.drop_zero]
  have hz4 : (l.drop 12).take 4 = zs 4 := by
    have := allZero_eq hz
    rwa [show ((l.drop 12).take 4).length = 4 from by rw [List.length_take, List.length_drop]; omega] at this
  unfold hd20
  rw [e, hm, svT_nat, le_num (by omega), hz4, show le 4 (svN l) = (l.drop 16).take 4 from le_num (by omega)]
theorem sv_back {l : List UInt8} (h24 : 24 ≤ l.length) (hn : svN l ≤ 249) (hl : 24 + 4 * svN l ≤ l.length) (hg : GoodSv (svT l) (spRec l (svN l))) (h : ∀ i, i < 24 + 4 * svN l → (svP (svT l) (spRec l (svN l)))[i]? = l[i]?) : OkSv l := by
  rw [svP_T hg] at h
  have cut : ∀ a m, a + m ≤ 24 + 4 * svN l → (l.drop a).take m = ((svB (svT l) (spRec l (svN l))).drop a).take m := fun a m ham => by
    apply List.ext_getElem?
    intro i
    rw [List.getElem?_take, List.getElem?_take]
    split
    · rw [List.getElem?_drop, List.getElem?_drop]; exact (h _ (by omega)).symm
    · rfl
  have eB : svB (svT l) (spRec l (svN l)) = magic ++ (le 4 (svT l).toNat ++ (zs 4 ++ (le 4 (svN l) ++ (le 4 (svSum (svT l) (spRec l (svN l))).toNat ++ (spB (spRec l (svN l)) ++ pad (svN l)))))) := by
    unfold svB hd20; rw [spRec_length]; simp only [List.append_assoc]
  have hm : (l.drop 0).take 8 = magic := by rw [cut 0 8 (by omega), eB, List.drop_zero]; exact List.take_left' rfl
  have hz : allZero ((l.drop 12).take 4) := by
    rw [cut 12 4 (by omega), eB, show (12 : Nat) = 8 + 4 from rfl, ← List.drop_drop, show (8 : Nat) = magic.length from rfl, List.drop_left, List.drop_left' (le_length ..), List.take_left' (zs_length 4)]
    intro c hc; exact List.eq_of_mem_replicate hc
  refine ⟨h24, hm, hz, hn, hl, ?_, hg⟩
  have hs : num l 20 4 = (svSum (svT l) (spRec l (svN l))).toNat := by
    rw [num_extV (m := svB (svT l) (spRec l (svN l))) (fun i _ hi => (h i (by omega)).symm)]
    refine num_appV (a := hd20 (svT l) (svN l)) (b := spB (spRec l (svN l)) ++ pad (svN l)) ?_ (hd20_length ..) (by have := (svSum (svT l) (spRec l (svN l))).isLt; simpa using this)
    unfold svB; rw [spRec_length]; simp only [List.append_assoc]
  rw [hs]
  unfold svSum sumOf
  rw [spRec_length, spB_rec hl, hd20_take h24 hm hz]
theorem openSv_n (v : Value) (l : List UInt8) (w : World) (ht : Tab w) (hv : RdB w v l) (hlen : l.length ≤ 140737488355328) :
    NewRowT Tryd.prog 62 [v] (fun v => .tuple #[.agg #[b32 (oT l), v], .int .i64 (oE l)]) 51 2 (oL l).length (prS (oL l)) w := by
 refine enterD0 Tryd.func62 rfl Tryd.ntmps62 rfl ?_
 have hn8 := num_lt (l := l) 8 4
 have hn16 := num_lt (l := l) 16 4
 have hn20 := num_lt (l := l) 20 4
 simp only [envOf]
 refine tR ?_
 refine At.alloc Tryd.zeroValue76 rfl rfl (fun b1 => ?_)
 refine At.alloc Tryd.zeroValue35 rfl rfl (fun b2 => ?_)
 refine tE ?_
 refine tR ?_
 refine At.defer rfl ?_
 refine tE ?_
 refine tR ?_
 refine tM rfl rfl ?_
 refine At.val (Val.lenRd hv Tryd.underlying38 rfl) rfl rfl rfl ?_
 refine At.val (Val.bin rfl rfl rfl) rfl rfl rfl ?_
 refine At.split (t := 8) rfl (fun h3 => ?_) (fun h3 => ?_)
 ·skip
  try simp only [vN_T, vN_F, nmE_T, nmE_F, wI_T, wI_F, data_T, data_F, ino_T, ino_F, notT, notF, bneT, bneF, beqT, beqF, decT, decF] at h3
  have h24 : 24 ≤ l.length := by omega
  obtain ⟨L, o, c, rfl, hb, hlc, hL⟩ := RdB.some hv (by omega)
  refine At.callP (fun w hw => must_T _ w) Tryd.call72 rfl rfl ?_
  refine tE ?_
  refine tR ?_
  refine tM rfl rfl ?_
  refine At.val (Val.build (fun a ha => by simp only [List.map_toArray, List.map_cons, List.map_nil, ha.eval (x := (.tmp 10)) rfl] <;> rfl) (bld_126_0 _ _ _ )) rfl rfl rfl ?_
  refine At.alloc Tryd.zeroValue126 rfl rfl (fun b4 => ?_)
  refine At.storeAll (i := 0) Tryd.sizeOf126 rfl rfl rfl (by simp [Value.oneCell']) rfl rfl ?_
  simp only [sc0, scS]
  refine At.nil ?_
  rw [show ([Value.slice (some ⟨L, o, none⟩) l.length c, Value.int IntKind.i64 0] : List Value) = eyeC L o l.length c 0 from rfl]
  refine At.thenN ?_
  refine tR ?_
  by_cases hmark : (l.drop 0).take 8 = magic
  ·skip
   refine At.call1 0 rfl (fun w hw hr => eyeText_T _ L o c 0 l ⟨#[70, 85, 82, 82, 79, 87, 83, 86]⟩ 36 w hr (hb.mod hw.mod) (hw.newBlk (i := 0) rfl hL) hlc (by omega) (by show 0 + 8 ≤ _; omega) hmark) Tryd.call73 rfl rfl ?_
   simp only [sc0, scS]
   refine tE ?_
   refine At.seq ?_
   rw [show 0 + (⟨#[70, 85, 82, 82, 79, 87, 83, 86]⟩ : ByteArray).data.toList.length = 8 from rfl]
   refine At.region ?_
   refine At.call1 0 rfl (fun w hw hr => eyeNumber_p _ L o c 8 4 l w hr (hb.mod hw.mod) (hw.newBlk (i := 0) rfl hL) hlc (by omega) (by omega) (by decide)) Tryd.call74 rfl rfl ?_
   simp only [sc0, scS]
   refine At.val (Val.toW Tryd.underlying65 Tryd.underlying71 rfl (by omega) (by omega)) rfl rfl rfl ?_
   rw [num_svT l]
   refine At.val (Val.field 0 rfl fo_76_0 rfl) rfl rfl rfl ?_
   refine At.store (i := 2) Tryd.sizeOf71 rfl rfl rfl rfl (by first | decide | simp) ?_
   simp only [sc0, scS]
   refine At.nil ?_
   rw [show (8 : Nat) + 4 = 12 from rfl]
   refine At.thenN ?_
   refine tR ?_
   by_cases hzero : allZero ((l.drop 12).take 4)
   ·skip
    refine At.call1 0 rfl (fun w hw hr => eyeZeros_T _ L o c 12 4 l 36 w hr (hb.mod hw.mod) (hw.newBlk (i := 0) rfl hL) hlc (by omega) (by omega) hzero) Tryd.call75 rfl rfl ?_
    simp only [sc0, scS]
    refine tE ?_
    refine tR ?_
    refine At.call1 0 rfl (fun w hw hr => eyeHalf_p _ L o c (12 + 4) l w hr (hb.mod hw.mod) (hw.newBlk (i := 0) rfl hL) hlc (by omega) (by omega)) Tryd.call76 rfl rfl ?_
    simp only [sc0, scS]
    refine tA rfl rfl ?_
    refine At.nil ?_
    rw [show (12 : Nat) + 4 = 16 from rfl, show num l 16 4 = svN l from rfl]
    refine At.thenN ?_
    refine tR ?_
    refine tM rfl rfl ?_
    refine At.val (Val.bin rfl rfl rfl) rfl rfl rfl ?_
    refine tM rfl rfl ?_
    refine At.split (t := 20) rfl (fun h5 => ?_) (fun h5 => ?_)
    ·skip
     try simp only [vN_T, vN_F, nmE_T, nmE_F, wI_T, wI_F, data_T, data_F, ino_T, ino_F, notT, notF, bneT, bneF, beqT, beqF, decT, decF] at h5
     refine At.yes rfl rfl ?_
     refine tM rfl rfl ?_
     refine At.yes rfl rfl ?_
     refine At.val (Val.lenRd hv Tryd.underlying38 rfl) rfl rfl rfl ?_
     refine At.yes rfl rfl ?_
     refine tM rfl rfl ?_
     refine At.yes rfl rfl ?_
     first | refine At.val (Val.mulI rfl rfl (by omega) (by omega)) rfl rfl rfl ?_ | refine At.val (Val.bin rfl rfl rfl) rfl rfl rfl ?_
     refine At.yes rfl rfl ?_
     first | refine At.val (Val.addI rfl rfl (by omega) (by omega)) rfl rfl rfl ?_ | refine At.val (Val.bin rfl rfl rfl) rfl rfl rfl ?_
     refine At.yes rfl rfl ?_
     refine At.val (Val.bin rfl rfl rfl) rfl rfl rfl ?_
     refine At.val (Val.pickT rfl rfl) rfl rfl rfl ?_
     refine At.split (t := 27) rfl (fun h6 => ?_) (fun h6 => ?_)
     ·skip
      try simp only [vN_T, vN_F, nmE_T, nmE_F, wI_T, wI_F, data_T, data_F, ino_T, ino_F, notT, notF, bneT, bneF, beqT, beqF, decT, decF] at h6
      have hn249 : svN l ≤ 249 := by omega
      have hl4 : 24 + 4 * svN l ≤ l.length := by omega
      refine At.callP (fun w hw => must_T _ w) Tryd.call72 rfl rfl ?_
      refine tE ?_
      refine tR ?_
      refine At.call1 0 rfl (fun w hw hr => eyeNumber_p _ L o c (16 + 4) 4 l w hr (hb.mod hw.mod) (hw.newBlk (i := 0) rfl hL) hlc (by omega) (by omega) (by decide)) Tryd.call74 rfl rfl ?_
      simp only [sc0, scS]
      skip
      ·skip
       rw [show (16 : Nat) + 4 = 20 from rfl]
       first | refine At.val (Val.toW Tryd.underlying65 Tryd.underlying71 rfl (by omega) (by omega)) rfl rfl rfl ?_ | refine At.val (Val.conv Tryd.underlying65 Tryd.underlying71 rfl) rfl rfl rfl ?_
       refine tM rfl rfl ?_
       refine tM rfl rfl ?_
       refine At.callP (fun w hw => (show PureC _ _ _ (b32 (sumOf l)) w from svSum_p _ l (svN l) w (ht.mod hw.mod) (hv.mod hw.mod) hl4 (by omega))) Tryd.call54 rfl rfl ?_
       refine At.val (Val.bin rfl rfl rfl) rfl rfl rfl ?_
       refine At.split (t := 34) rfl (fun h7 => ?_) (fun h7 => ?_)
       ·skip
        try simp only [vN_T, vN_F, nmE_T, nmE_F, wI_T, wI_F, data_T, data_F, ino_T, ino_F, notT, notF, bneT, bneF, beqT, beqF, decT, decF] at h7
        have hsum : num l 20 4 = (sumOf l).toNat := Int.ofNat.inj h7
        refine At.callP (fun w hw => must_T _ w) Tryd.call72 rfl rfl ?_
        refine At.nil ?_
        rw [show (20 : Nat) + 4 = 24 from rfl]
        refine At.thenN ?_
        refine At.seq ?_
        refine tR ?_
        refine tM rfl rfl ?_
        refine tM rfl rfl ?_
        refine At.nil ?_
        refine At.rowNilS 51 ?_
        refine At.thenN ?_
        refine At.block ?_
        skip
        refine At.loop (σ := Nat × Value) (fun s => s.1 ≤ svN l) (fun s => [(2, .pointer (some ⟨b1, 0, none⟩)), (3, .pointer (some ⟨b2, 0, none⟩)), (4, .pointer (some ⟨b4, 0, none⟩)), (36, .int .i64 (svN l : Int)), (37, .int .i64 (s.1 : Int))]) (fun s => [srow 51 s.2 (spRec l s.1), blk b4 126 (eyeC L o l.length c (24 + 4 * s.1)), blk b2 35 [.int .i64 0], blk b1 76 [b32 (svT l), s.2]]) (fun s => svN l - s.1) (0, .slice none 0 0) (Nat.zero_le _) (Sub.cons rfl (Sub.cons rfl (Sub.cons rfl (Sub.cons rfl (Sub.cons rfl Sub.nil))))) (List.Perm.refl _) ?_
        intro s hs
        obtain ⟨k, vk⟩ := s
        dsimp only at hs ⊢
        have hn2 := num_lt (l := l) (24 + 4 * k) 2
        have hn3 := num_lt (l := l) (24 + 4 * k + 2) 2
        refine tR ?_
        refine At.val (Val.bin rfl rfl rfl) rfl rfl rfl ?_
        refine tE ?_
        refine At.seq ?_
        refine At.cond rfl (fun h8 => ?_) (fun h8 => ?_)
        ·skip
         try simp only [vN_T, vN_F, nmE_T, nmE_F, wI_T, wI_F, data_T, data_F, ino_T, ino_F, notT, notF, bneT, bneF, beqT, beqF, decT, decF] at h8
         have hk : k < svN l := by omega
         refine At.skipC ?_
         refine At.thenN ?_
         refine At.seq ?_
         refine At.block ?_
         apply At.any (t := 10)
         · rfl
         refine KAt.pin (fun w hw => hw.drop (List.Sublist.cons _ (List.Sublist.cons _ (List.Sublist.cons _ (List.Sublist.cons_cons _ (List.Sublist.refl _)))))) ?_
         refine KAt.take 0 (Val.field 1 rfl fo_76_1 rfl) rfl rfl rfl rfl (fun w hw => hw.drop (List.Sublist.cons _ (List.Sublist.cons _ (List.Sublist.cons _ (List.Sublist.cons_cons _ (List.Sublist.refl _)))))) (by decide +kernel) ?_
         refine KAt.take 1 (Val.load (i := 0) Tryd.isAgg30 rfl rfl rfl) rfl rfl rfl rfl (fun w hw => hw.drop (List.Sublist.cons _ (List.Sublist.cons _ (List.Sublist.cons _ (List.Sublist.cons_cons _ (List.Sublist.refl _)))))) (by decide +kernel) ?_
         refine KAt.only 2 rfl (by decide +kernel) ?_
         refine At.call1 1 rfl (fun w hw hr => eyeNumber_p _ L o c (24 + 4 * k) 2 l w hr (hb.mod hw.mod) (hw.newBlk (i := 1) rfl hL) hlc (by omega) (by omega) (by decide)) Tryd.call74 rfl rfl ?_
         simp only [sc0, scS]
         refine At.nil ?_
         refine KAt.go (fun w hw => hw.drop (List.Sublist.cons _ (List.Sublist.cons _ (List.Sublist.cons _ (List.Sublist.cons_cons _ (List.Sublist.refl _)))))) ?_
         first | refine KAt.take 3 (Val.toI Tryd.underlying65 Tryd.underlying3 rfl (by omega) (by omega)) rfl rfl rfl rfl (fun w hw => hw.drop (List.Sublist.cons _ (List.Sublist.cons _ (List.Sublist.cons _ (List.Sublist.cons_cons _ (List.Sublist.refl _)))))) (by decide +kernel) ?_ | refine KAt.take 3 (Val.conv Tryd.underlying65 Tryd.underlying3 rfl) rfl rfl rfl rfl (fun w hw => hw.drop (List.Sublist.cons _ (List.Sublist.cons _ (List.Sublist.cons _ (List.Sublist.cons_cons _ (List.Sublist.refl _)))))) (by decide +kernel) ?_
         refine KAt.only 4 rfl (by decide +kernel) ?_
         refine At.call1 1 rfl (fun w hw hr => eyeNumber_p _ L o c (24 + 4 * k + 2) 2 l w hr (hb.mod hw.mod) (hw.newBlk (i := 1) rfl hL) hlc (by omega) (by omega) (by decide)) Tryd.call74 rfl rfl ?_
         simp only [sc0, scS]
         refine At.nil ?_
         refine KAt.go (fun w hw => hw.drop (List.Sublist.cons _ (List.Sublist.cons _ (List.Sublist.cons _ (List.Sublist.cons_cons _ (List.Sublist.refl _)))))) ?_
         first | refine KAt.take 5 (Val.toI Tryd.underlying65 Tryd.underlying3 rfl (by omega) (by omega)) rfl rfl rfl rfl (fun w hw => hw.drop (List.Sublist.cons _ (List.Sublist.cons _ (List.Sublist.cons _ (List.Sublist.cons_cons _ (List.Sublist.refl _)))))) (by decide +kernel) ?_ | refine KAt.take 5 (Val.conv Tryd.underlying65 Tryd.underlying3 rfl) rfl rfl rfl rfl (fun w hw => hw.drop (List.Sublist.cons _ (List.Sublist.cons _ (List.Sublist.cons _ (List.Sublist.cons_cons _ (List.Sublist.refl _)))))) (by decide +kernel) ?_
         refine KAt.take 6 (Val.build (fun a ha => by simp only [List.map_toArray, List.map_cons, List.map_nil, ha.eval (x := (.tmp 42)) rfl, ha.eval (x := (.tmp 44)) rfl] <;> rfl) (bld_51_0_1 _ _ )) rfl rfl rfl rfl (fun w hw => hw.drop (List.Sublist.cons _ (List.Sublist.cons _ (List.Sublist.cons _ (List.Sublist.cons_cons _ (List.Sublist.refl _)))))) (by decide +kernel) ?_
         refine KAt.only 7 rfl (by decide +kernel) ?_
         refine At.buildSl (fun a ha => by simp only [List.map_toArray, List.map_cons, List.map_nil, ha.eval (x := (.tmp 45)) rfl]; try rfl) (bs_30_1 _ _ ) rfl (fun b9 => ?_)
         refine At.nil ?_
         refine KAt.go (fun w hw => hw.drop (List.Sublist.cons _ (List.Sublist.cons _ (List.Sublist.cons _ (List.Sublist.cons _ (List.Sublist.cons_cons _ (List.Sublist.refl _))))))) ?_
         refine KAt.only 8 rfl (by decide +kernel) ?_
         refine At.appendS1 (i := 1) (j := 0) (by_ := 16) Tryd.underlying30 info_51 rfl rfl rfl rfl rfl rfl rfl rfl (by rw [spRec_length]; omega) (by rw [spRec_length]; omega) rfl (fun v10 => ?_)
         simp only [sc0, scS]
         refine At.drop 0 ?_
         simp only [ec0, ecS]
         refine At.nil ?_
         refine KAt.go (fun w hw => hw.drop (List.Sublist.cons _ (List.Sublist.cons _ (List.Sublist.cons _ (List.Sublist.cons_cons _ (List.Sublist.refl _)))))) ?_
         refine KAt.take 9 (Val.field 1 rfl fo_76_1 rfl) rfl rfl rfl rfl (fun w hw => hw.drop (List.Sublist.cons _ (List.Sublist.cons _ (List.Sublist.cons _ (List.Sublist.cons_cons _ (List.Sublist.refl _)))))) (by decide +kernel) ?_
         refine KAt.only 10 rfl (by decide +kernel) ?_
         refine At.rowOne (i := 0) rfl (fun ho11 => ?_)
         refine At.store (i := 3) Tryd.sizeOf30 rfl rfl ho11 rfl (by first | decide | simp) ?_
         simp only [sc0, scS]
         refine At.nil ?_
         refine KAt.goT rfl ?_
         refine KAt.done (by decide +kernel) ?_
         refine At.blkN ?_
         refine At.thenN ?_
         refine At.region ?_
         first | refine At.val (Val.addI rfl rfl (by omega) (by omega)) rfl rfl rfl ?_ | refine At.val (Val.bin rfl rfl rfl) rfl rfl rfl ?_
         refine tM rfl rfl ?_
         refine tE ?_
         exact At.again (k + 1, v10) (show k + 1 ≤ _ by omega) (by dsimp only; omega) (Sub.cons rfl (Sub.cons rfl (Sub.cons rfl (Sub.cons rfl (Sub.cons (congrArg (fun z => some (Value.int IntKind.i64 z)) (by omega)) Sub.nil))))) (by rw [spRec_succ, show 24 + 4 * (k + 1) = 24 + 4 * k + 2 + 2 from by omega])
        ·skip
         try simp only [vN_T, vN_F, nmE_T, nmE_F, wI_T, wI_F, data_T, data_F, ino_T, ino_F, notT, notF, bneT, bneF, beqT, beqF, decT, decF] at h8
         obtain rfl : k = svN l := by omega
         refine At.exitC ?_
         refine At.thenX ?_
         refine At.thenX ?_
         refine At.blkX ?_
         refine At.thenN ?_
         refine tR ?_
         refine At.val (Val.loadAll (i := 3) Tryd.isAgg76 Tryd.sizeOf76 rfl rfl rfl) rfl rfl rfl ?_
         refine At.callP (fun w hw => goodSv_p (svT l) _ (spRec l (svN l)) w (row_rd (hw.row (i := 0) rfl) (by decide)) (by rw [spRec_length]; omega)) Tryd.call52 rfl rfl ?_
         refine At.split (t := 51) rfl (fun h12 => ?_) (fun h12 => ?_)
         ·skip
          try simp only [vN_T, vN_F, nmE_T, nmE_F, wI_T, wI_F, data_T, data_F, ino_T, ino_F, notT, notF, bneT, bneF, beqT, beqF, decT, decF] at h12
          have hgd : GoodSv (svT l) (spRec l (svN l)) := by simpa using h12
          have hok : OkSv l := ⟨h24, hmark, hzero, hn249, hl4, hsum, hgd⟩
          refine At.callP (fun w hw => must_T _ w) Tryd.call72 rfl rfl ?_
          refine At.nil ?_
          refine At.rowIs (i := 0) rfl (fun A13 c14 hv => ?_)
          subst hv
          refine At.thenN ?_
          refine tR ?_
          refine At.val (Val.loadAll (i := 3) Tryd.isAgg76 Tryd.sizeOf76 rfl rfl rfl) rfl rfl rfl ?_
          refine At.storeAll (i := 3) Tryd.sizeOf76 rfl rfl rfl (by simp [Value.oneCell']) rfl rfl ?_
          simp only [sc0, scS]
          refine At.store (i := 2) Tryd.sizeOf35 rfl rfl rfl rfl (by first | decide | simp) ?_
          simp only [sc0, scS]
          refine tE ?_
          refine At.retC ?_
          refine At.leaveN (.inl rfl) rfl Tryd.call71 (fun w hw => caughtSaved_idle _ _ w) rfl (ResOf.all (i := 3) Tryd.isAgg76 Tryd.sizeOf76 rfl rfl rfl) (ResOf.one (i := 2) Tryd.isAgg35 rfl rfl rfl) (fun w hw => ?_)
          exact ⟨(.slice A13 ((spRec l (svN l)).length) c14), by rw [oE_yes hok, oT_yes hok]; try rfl, by rw [oL_yes hok]; exact (hw.drop (List.singleton_sublist.2 (List.mem_of_getElem? (i := 0) rfl))).f0⟩
         ·skip
          try simp only [vN_T, vN_F, nmE_T, nmE_F, wI_T, wI_F, data_T, data_F, ino_T, ino_F, notT, notF, bneT, bneF, beqT, beqF, decT, decF] at h12
          have hno : ¬ OkSv l := fun h => absurd h.2.2.2.2.2.2 (by simpa using h12)
          refine At.callT0 (fun w hw => must_F _ w) Tryd.call72 rfl ?_
          refine At.thenE ?_
          refine At.leaveP rfl Tryd.call71 ((erase_perm _ 3 _ rfl).trans (List.Perm.cons _ (erase_perm _ 2 _ rfl))) (fun w hw => caughtSaved_pan _ _ _ _ _ w (hw.blk (i := 0) rfl) rfl (hw.blk (i := 1) rfl) hw.ne01) rfl (ResOf.all (i := 0) Tryd.isAgg76 Tryd.sizeOf76 rfl rfl rfl) (ResOf.one (i := 1) Tryd.isAgg35 rfl rfl rfl) (fun w hw => ?_)
          exact ⟨.slice none 0 0, by rw [oE_no hno, oT_no hno]; try rfl, by rw [oL_no hno]; exact ((hw.drop (List.nil_sublist _)).f0).nilRow _ _⟩
       ·skip
        try simp only [vN_T, vN_F, nmE_T, nmE_F, wI_T, wI_F, data_T, data_F, ino_T, ino_F, notT, notF, bneT, bneF, beqT, beqF, decT, decF] at h7
        have hno : ¬ OkSv l := fun h => h7 (congrArg Int.ofNat h.2.2.2.2.2.1)
        refine At.callT0 (fun w hw => must_F _ w) Tryd.call72 rfl ?_
        refine At.thenE ?_
        refine At.leaveP rfl Tryd.call71 ((erase_perm _ 2 _ rfl).trans (List.Perm.cons _ (erase_perm _ 1 _ rfl))) (fun w hw => caughtSaved_pan _ _ _ _ _ w (hw.blk (i := 0) rfl) rfl (hw.blk (i := 1) rfl) hw.ne01) rfl (ResOf.all (i := 0) Tryd.isAgg76 Tryd.sizeOf76 rfl rfl rfl) (ResOf.one (i := 1) Tryd.isAgg35 rfl rfl rfl) (fun w hw => ?_)
        exact ⟨.slice none 0 0, by rw [oE_no hno, oT_no hno]; try rfl, by rw [oL_no hno]; exact ((hw.drop (List.nil_sublist _)).f0).nilRow _ _⟩
     ·skip
      try simp only [vN_T, vN_F, nmE_T, nmE_F, wI_T, wI_F, data_T, data_F, ino_T, ino_F, notT, notF, bneT, bneF, beqT, beqF, decT, decF] at h6
      have hno : ¬ OkSv l := fun h => by have := h.2.2.2.2.1; omega
      refine At.callT0 (fun w hw => must_F _ w) Tryd.call72 rfl ?_
      refine At.thenE ?_
      refine At.leaveP rfl Tryd.call71 ((erase_perm _ 2 _ rfl).trans (List.Perm.cons _ (erase_perm _ 1 _ rfl))) (fun w hw => caughtSaved_pan _ _ _ _ _ w (hw.blk (i := 0) rfl) rfl (hw.blk (i := 1) rfl) hw.ne01) rfl (ResOf.all (i := 0) Tryd.isAgg76 Tryd.sizeOf76 rfl rfl rfl) (ResOf.one (i := 1) Tryd.isAgg35 rfl rfl rfl) (fun w hw => ?_)
      exact ⟨.slice none 0 0, by rw [oE_no hno, oT_no hno]; try rfl, by rw [oL_no hno]; exact ((hw.drop (List.nil_sublist _)).f0).nilRow _ _⟩
    ·skip
     try simp only [vN_T, vN_F, nmE_T, nmE_F, wI_T, wI_F, data_T, data_F, ino_T, ino_F, notT, notF, bneT, bneF, beqT, beqF, decT, decF] at h5
     have hno : ¬ OkSv l := fun h => by have := h.2.2.2.1; omega
     refine At.no rfl rfl rfl rfl ?_
     refine At.no rfl rfl rfl rfl ?_
     refine At.no rfl rfl rfl rfl ?_
     refine At.no rfl rfl rfl rfl ?_
     refine At.no rfl rfl rfl rfl ?_
     refine At.no rfl rfl rfl rfl ?_
     refine At.val (Val.pickF rfl rfl) rfl rfl rfl ?_
     refine At.callT0 (fun w hw => must_F _ w) Tryd.call72 rfl ?_
     refine At.thenE ?_
     refine At.leaveP rfl Tryd.call71 ((erase_perm _ 2 _ rfl).trans (List.Perm.cons _ (erase_perm _ 1 _ rfl))) (fun w hw => caughtSaved_pan _ _ _ _ _ w (hw.blk (i := 0) rfl) rfl (hw.blk (i := 1) rfl) hw.ne01) rfl (ResOf.all (i := 0) Tryd.isAgg76 Tryd.sizeOf76 rfl rfl rfl) (ResOf.one (i := 1) Tryd.isAgg35 rfl rfl rfl) (fun w hw => ?_)
     exact ⟨.slice none 0 0, by rw [oE_no hno, oT_no hno]; try rfl, by rw [oL_no hno]; exact ((hw.drop (List.nil_sublist _)).f0).nilRow _ _⟩
   ·skip
    have hno : ¬ OkSv l := fun h => hzero h.2.2.1
    refine At.callT1 0 rfl (fun w hw hr => eyeZeros_F _ L o c 12 4 l 36 w hr (hb.mod hw.mod) (hw.newBlk (i := 0) rfl hL) hlc (by omega) (by omega) hzero) Tryd.call75 rfl ?_
    simp only [ec0, ecS]
    refine At.thenE ?_
    refine At.leaveP rfl Tryd.call71 ((erase_perm _ 1 _ rfl).trans (List.Perm.cons _ (erase_perm _ 0 _ rfl))) (fun w hw => caughtSaved_pan _ _ _ _ _ w (hw.blk (i := 0) rfl) rfl (hw.blk (i := 1) rfl) hw.ne01) rfl (ResOf.all (i := 0) Tryd.isAgg76 Tryd.sizeOf76 rfl rfl rfl) (ResOf.one (i := 1) Tryd.isAgg35 rfl rfl rfl) (fun w hw => ?_)
    exact ⟨.slice none 0 0, by rw [oE_no hno, oT_no hno]; try rfl, by rw [oL_no hno]; exact ((hw.drop (List.nil_sublist _)).f0).nilRow _ _⟩
  ·skip
   have hno : ¬ OkSv l := fun h => hmark h.2.1
   refine At.callT1 0 rfl (fun w hw hr => eyeText_F _ L o c 0 l ⟨#[70, 85, 82, 82, 79, 87, 83, 86]⟩ 36 w hr (hb.mod hw.mod) (hw.newBlk (i := 0) rfl hL) hlc (by omega) (by show 0 + 8 ≤ _; omega) hmark) Tryd.call73 rfl ?_
   simp only [ec0, ecS]
   refine At.thenE ?_
   refine At.leaveP rfl Tryd.call71 ((erase_perm _ 1 _ rfl).trans (List.Perm.cons _ (erase_perm _ 0 _ rfl))) (fun w hw => caughtSaved_pan _ _ _ _ _ w (hw.blk (i := 0) rfl) rfl (hw.blk (i := 1) rfl) hw.ne01) rfl (ResOf.all (i := 0) Tryd.isAgg76 Tryd.sizeOf76 rfl rfl rfl) (ResOf.one (i := 1) Tryd.isAgg35 rfl rfl rfl) (fun w hw => ?_)
   exact ⟨.slice none 0 0, by rw [oE_no hno, oT_no hno]; try rfl, by rw [oL_no hno]; exact ((hw.drop (List.nil_sublist _)).f0).nilRow _ _⟩
 ·skip
  try simp only [vN_T, vN_F, nmE_T, nmE_F, wI_T, wI_F, data_T, data_F, ino_T, ino_F, notT, notF, bneT, bneF, beqT, beqF, decT, decF] at h3
  have hno : ¬ OkSv l := fun h => by have := h.1; omega
  refine At.callT0 (fun w hw => must_F _ w) Tryd.call72 rfl ?_
  refine At.thenE ?_
  refine At.leaveP rfl Tryd.call71 ((erase_perm _ 1 _ rfl).trans (List.Perm.cons _ (erase_perm _ 0 _ rfl))) (fun w hw => caughtSaved_pan _ _ _ _ _ w (hw.blk (i := 0) rfl) rfl (hw.blk (i := 1) rfl) hw.ne01) rfl (ResOf.all (i := 0) Tryd.isAgg76 Tryd.sizeOf76 rfl rfl rfl) (ResOf.one (i := 1) Tryd.isAgg35 rfl rfl rfl) (fun w hw => ?_)
  exact ⟨.slice none 0 0, by rw [oE_no hno, oT_no hno]; try rfl, by rw [oL_no hno]; exact ((hw.drop (List.nil_sublist _)).f0).nilRow _ _⟩
end Go.Proofs.YtpihenmdkoojdaaDoor
set_option linter.unusedVariables false
set_option linter.unusedSimpArgs false
namespace Go.Proofs.YtpihenmdkoojdaaDoor
open Go Go.Wk
end Go.Proofs.YtpihenmdkoojdaaDoor
set_option linter.unusedVariables false
set_option linter.unusedSimpArgs false
namespace Go.Proofs.YtpihenmdkoojdaaDoor
open Go Go.Wk
end Go.Proofs.YtpihenmdkoojdaaDoor
set_option linter.unusedVariables false
set_option linter.unusedSimpArgs false
namespace Go.Proofs.YtpihenmdkoojdaaDoor
open Go Go.Wk
end Go.Proofs.YtpihenmdkoojdaaDoor
set_option linter.unusedVariables false
set_option linter.unusedSimpArgs false
namespace Go.Wk
open Go Go.ChangeShapes Go.WideShapes Go.ChangeAt Go.RowKit
section
variable {H : Type} {enc : TypeId × Value → H} {P : Program} {W : World} {r : Reach} {base b0 : Nat} {sp : Nat → Bool} {held : Bool}
end
end Go.Wk
set_option linter.unusedVariables false
set_option linter.unusedSimpArgs false
namespace Go.Wk
open Go Go.ChangeShapes Go.WideShapes Go.ChangeAt Go.RowKit
section
variable {H : Type} {enc : TypeId × Value → H} {P : Program} {W : World} {r : Reach} {base b0 : Nat} {sp : Nat → Bool} {held : Bool}
theorem cell_slice {t e : TypeId} {v : Value} (hu : P.underlying t = some (.slice e)) (h : Cell.okWide P W r base t v) : v = .slice none 0 0 ∨ ∃ b o n c, v = .slice (some ⟨b, o, none⟩) n c ∧ n ≤ c :=
  arg_slice (r := r) (base := base) hu (by unfold Value.okWide; rw [hu]; exact h)
end
end Go.Wk
set_option linter.unusedVariables false
set_option linter.unusedSimpArgs false
namespace Go.Wk
open Go Go.ChangeMaps
section
variable {P : Program} {Γ : Ctx} {E : Env} {H L F : List Res} {ops : Array Oper} {Q : Exit → Act → World → Prop} {rest : List Oper} {w0 w w' : World} {S : Nat → Prop} {φ : Act → World → Prop}
  {d : Nat} {dst : Option Tmp} {g : Option (Nat × Bool)} {ty : TypeId} {pos : String} {after : Array Edge} {x y z : Operand} {v u : Value}
/-! ### stars -/
def star (L : List Res) : Res where
  foot := feet L
  holds := fun w => L.Pairwise Apart ∧ ∀ r ∈ L, r.holds w
  stable := fun h hw => ⟨hw.1, fun r hr => r.stable (fun b hb => h b ⟨r, hr, hb⟩) (hw.2 r hr)⟩
  low := fun hw b ⟨r, hr, hb⟩ => r.low (hw.2 r hr) b hb
theorem Rep.openS (h : Rep w0 S (star L :: F) w) : Rep w0 S (L ++ F) w := by
  have hs := List.pairwise_cons.1 h.sep
  have hl := h.all (star L) (List.mem_cons_self ..)
  refine ⟨List.pairwise_append.2 ⟨hl.1, hs.2, fun r hr s hs' b hb hsb => hs.1 s hs' b ⟨r, hr, hb⟩ hsb⟩, fun r hr => ?_, fun r hr b hb => ?_, h.mod⟩
  · rcases List.mem_append.1 hr with h1 | h1
    · exact hl.2 r h1
    · exact h.all r (List.mem_cons_of_mem _ h1)
  · rcases List.mem_append.1 hr with h1 | h1
    · exact h.mine (star L) (List.mem_cons_self ..) b ⟨r, h1, hb⟩
    · exact h.mine r (List.mem_cons_of_mem _ h1) b hb
theorem Rep.shutS (h : Rep w0 S (L ++ F) w) : Rep w0 S (star L :: F) w := by
  have hs := List.pairwise_append.1 h.sep
  refine ⟨List.pairwise_cons.2 ⟨fun s hs' b ⟨r, hr, hb⟩ hsb => hs.2.2 r hr s hs' b hb hsb, hs.2.1⟩, fun r hr => ?_, fun r hr b hb => ?_, h.mod⟩
  · rcases List.mem_cons.1 hr with rfl | h1
    · exact ⟨hs.1, fun r hr => h.all r (List.mem_append_left _ hr)⟩
    · exact h.all r (List.mem_append_right _ h1)
  · rcases List.mem_cons.1 hr with rfl | h1
    · obtain ⟨r, hr, hb⟩ := hb
      exact h.mine r (List.mem_append_left _ hr) b hb
    · exact h.mine r (List.mem_append_right _ h1) b hb
theorem At.openS (i : Nat) (hi : H[i]? = some (star L)) (k : At Γ E (L ++ H.eraseIdx i) φ) : At Γ E H φ := fun a w ha hw => k a w ha (hw.perm (erase_perm H i _ hi)).openS
theorem At.shutS (k : At Γ E (star L :: H) φ) : At Γ E (L ++ H) φ := fun a w ha hw => k a w ha hw.shutS
theorem Rep.of_star {r : Res} (h : (star L).holds w) : Rep w (feet [star L]) L w :=
  ⟨h.1, h.2, fun r hr b hb => .inr ⟨star L, by simp, r, hr, hb⟩, Mod.refl _ _⟩
def factR (p : Prop) : Res where
  foot := fun _ => False
  holds := fun _ => p
  stable := fun _ h => h
  low := fun _ b hb => hb.elim
theorem At.fact {p : Prop} (i : Nat) (hi : H[i]? = some (factR p)) (k : p → At Γ E H φ) : At Γ E H φ := fun a w ha hw => k (hw.all _ (List.mem_of_getElem? hi)) a w ha hw
theorem Rep.fact {p : Prop} (hp : p) (h : Rep w0 S H w) : Rep w0 S (factR p :: H) w :=
  ⟨List.pairwise_cons.2 ⟨fun s _ b hb _ => hb.elim, h.sep⟩, fun r hr => by
    rcases List.mem_cons.1 hr with rfl | h1
    · exact hp
    · exact h.all r h1, fun r hr b hb => by
    rcases List.mem_cons.1 hr with rfl | h1
    · exact hb.elim
    · exact h.mine r h1 b hb, h.mod⟩
/-! ### families -/
def upd {α : Type} (I : Nat → α) (k : Nat) (x : α) : Nat → α := fun j => if j = k then x else I j
theorem upd_at {α : Type} (I : Nat → α) (k : Nat) (x : α) : upd I k x k = x := by simp [upd]
theorem upd_ne {α : Type} (I : Nat → α) {k j : Nat} (x : α) (h : j ≠ k) : upd I k x j = I j := by simp [upd, h]
theorem upd_none {I : Nat → Option Res} {k j : Nat} {r : Res} (h : upd I k none j = some r) : j ≠ k ∧ I j = some r := by
  unfold upd at h; split at h
  · cases h
  · exact ⟨by assumption, h⟩
def fam (I : Nat → Option Res) : Res where
  foot := fun b => ∃ k r, I k = some r ∧ r.foot b
  holds := fun w => (∀ k r, I k = some r → r.holds w) ∧ ∀ k k' r r', I k = some r → I k' = some r' → k ≠ k' → Apart r r'
  stable := fun h hw => ⟨fun k r hk => r.stable (fun b hb => h b ⟨k, r, hk, hb⟩) (hw.1 k r hk), hw.2⟩
  low := fun hw b ⟨k, r, hk, hb⟩ => r.low (hw.1 k r hk) b hb
theorem Rep.focus {I : Nat → Option Res} {k : Nat} {r : Res} (hk : I k = some r) (h : Rep w0 S (fam I :: F) w) : Rep w0 S (r :: fam (upd I k none) :: F) w := by
  have hs := List.pairwise_cons.1 h.sep
  have hl := h.all (fam I) (List.mem_cons_self ..)
  have hm := h.mine (fam I) (List.mem_cons_self ..)
  refine ⟨List.pairwise_cons.2 ⟨fun s hs' b hb hsb => ?_, List.pairwise_cons.2 ⟨fun s hs' b ⟨k', r', hk', hb⟩ hsb => ?_, hs.2⟩⟩, fun s hs' => ?_, fun s hs' b hb => ?_, h.mod⟩
  · rcases List.mem_cons.1 hs' with rfl | h1
    · obtain ⟨k', r', hk', hb'⟩ := hsb
      obtain ⟨h2, h3⟩ := upd_none hk'
      exact hl.2 _ _ _ _ hk h3 (Ne.symm h2) b hb hb'
    · exact hs.1 s h1 b ⟨k, r, hk, hb⟩ hsb
  · exact hs.1 s hs' b ⟨k', r', (upd_none hk').2, hb⟩ hsb
  · rcases List.mem_cons.1 hs' with rfl | h1
    · exact hl.1 _ _ hk
    · rcases List.mem_cons.1 h1 with rfl | h1
      · exact ⟨fun j q hj => hl.1 _ _ (upd_none hj).2, fun j j' q q' hj hj' hne => hl.2 _ _ _ _ (upd_none hj).2 (upd_none hj').2 hne⟩
      · exact h.all s (List.mem_cons_of_mem _ h1)
  · rcases List.mem_cons.1 hs' with rfl | h1
    · exact hm b ⟨k, _, hk, hb⟩
    · rcases List.mem_cons.1 h1 with rfl | h1
      · obtain ⟨k', r', hk', hb'⟩ := hb
        exact hm b ⟨k', r', (upd_none hk').2, hb'⟩
      · exact h.mine s (List.mem_cons_of_mem _ h1) b hb
theorem upd_some {I : Nat → Option Res} {k j : Nat} {r q : Res} (h : upd I k (some r) j = some q) : (j = k ∧ q = r) ∨ (j ≠ k ∧ I j = some q) := by
  unfold upd at h; split at h
  · exact .inl ⟨by assumption, (Option.some.inj h).symm⟩
  · exact .inr ⟨by assumption, h⟩
theorem Rep.unfocus {I : Nat → Option Res} {k : Nat} {r : Res} (hk : I k = none) (h : Rep w0 S (r :: fam I :: F) w) : Rep w0 S (fam (upd I k (some r)) :: F) w := by
  have hs := List.pairwise_cons.1 h.sep
  have hs2 := List.pairwise_cons.1 hs.2
  have hl := h.all (fam I) (by simp)
  have hr := h.all r (by simp)
  refine ⟨List.pairwise_cons.2 ⟨fun s hs' b ⟨k', r', hk', hb⟩ hsb => ?_, hs2.2⟩, fun s hs' => ?_, fun s hs' b hb => ?_, h.mod⟩
  · rcases upd_some hk' with ⟨_, rfl⟩ | ⟨_, h1⟩
    · exact hs.1 s (List.mem_cons_of_mem _ hs') b hb hsb
    · exact hs2.1 s hs' b ⟨k', r', h1, hb⟩ hsb
  · rcases List.mem_cons.1 hs' with rfl | h1
    · refine ⟨fun j q hj => ?_, fun j j' q q' hj hj' hne => ?_⟩
      · rcases upd_some hj with ⟨_, rfl⟩ | ⟨_, h1⟩
        · exact hr
        · exact hl.1 _ _ h1
      · rcases upd_some hj with ⟨e1, rfl⟩ | ⟨_, h1⟩
        · rcases upd_some hj' with ⟨e2, rfl⟩ | ⟨_, h2⟩
          · exact absurd (e1.trans e2.symm) hne
          · exact fun b hb hb' => hs.1 (fam I) (by simp) b hb ⟨_, _, h2, hb'⟩
        · rcases upd_some hj' with ⟨e2, rfl⟩ | ⟨_, h2⟩
          · exact fun b hb hb' => hs.1 (fam I) (by simp) b hb' ⟨_, _, h1, hb⟩
          · exact hl.2 _ _ _ _ h1 h2 hne
    · exact h.all s (List.mem_cons_of_mem _ (List.mem_cons_of_mem _ h1))
  · rcases List.mem_cons.1 hs' with rfl | h1
    · obtain ⟨k', r', hk', hb'⟩ := hb
      rcases upd_some hk' with ⟨_, rfl⟩ | ⟨_, h1⟩
      · exact h.mine _ (by simp) b hb'
      · exact h.mine (fam I) (by simp) b ⟨_, _, h1, hb'⟩
    · exact h.mine s (List.mem_cons_of_mem _ (List.mem_cons_of_mem _ h1)) b hb
/-! ### windows -/
def Win (w : World) (v : Value) (e : TypeId) (xs : List Value) : Prop :=
  (v = .slice none 0 0 ∧ xs = []) ∨ ∃ b o c cur, v = .slice (some ⟨b, o, none⟩) xs.length c ∧ w.heap[b]? = some (.cells cur e (0, 0)) ∧ xs.length ≤ c ∧ c ≤ maxLen ∧ o + c ≤ cur.size ∧ ∀ j u, xs[j]? = some u → cur[o + j]? = some u
def winR (v : Value) (e : TypeId) (xs : List Value) : Res where
  foot := fun x => v.ownBlock = some x
  holds := fun w => Win w v e xs
  stable := fun {w w'} h hw => by
    rcases hw with h1 | ⟨b, o, c, cur, rfl, hb, r⟩
    · exact .inl h1
    · exact .inr ⟨b, o, c, cur, rfl, (h b rfl).trans hb, r⟩
  low := fun {w} hw x hx => by
    rcases hw with ⟨rfl, _⟩ | ⟨b, o, c, cur, rfl, hb, r⟩
    · cases hx
    · simp only [Value.ownBlock, Option.some.injEq] at hx
      subst hx
      exact (Array.getElem?_eq_some_iff.1 hb).1
theorem own_win {base e n : Nat} {xs : List Value} (h : w.ownsRow base e 1 v n xs) : Win w v e xs := by
  obtain ⟨hl, h⟩ := h
  rw [Nat.mul_one] at hl
  subst hl
  rcases h with ⟨rfl, h0⟩ | ⟨b, cap, cur, rfl, _, hb, h1, h2, h3, h4⟩
  · exact .inl ⟨rfl, List.eq_nil_of_length_eq_zero h0⟩
  · refine .inr ⟨b, 0, cap, cur, rfl, hb, h1, h2, by omega, fun j u hj => ?_⟩
    rw [Nat.zero_add, ← Array.getElem?_toList]
    rw [← h4, List.getElem?_take] at hj
    split at hj
    · exact hj
    · cases hj
theorem Val.lenWin {i t el e : Nat} {xs : List Value} (hi : H[i]? = some (winR v e xs)) (hu : P.underlying t = some (.slice el)) (hx : ev E x = some v) :
    Val P Γ E H ⟨dst, .call { callee := .builtin .len, args := #[x], argTypes := #[t] }, ty, pos, after, g⟩ (.int .i64 xs.length) := fun a w ha hw => by
  have h : Win w v e xs := hw.all _ (List.mem_of_getElem? hi)
  rcases h with ⟨rfl, rfl⟩ | ⟨b, o, c, cur, rfl, _⟩
  · exact Val.len (bt := #[]) hu hx a w ha hw
  · exact Val.len (bt := #[]) hu hx a w ha hw
theorem Win.at {e b o n c j : Nat} {xs : List Value} (h : Win w (.slice (some ⟨b, o, none⟩) n c) e xs) (hv : xs[j]? = some u) : w.cell? ⟨b, o + j, none⟩ = some u := by
  rcases h with ⟨h1, _⟩ | ⟨b', o', c', cur, h1, hb, _, _, _, h2⟩
  · cases h1
  · simp only [Value.slice.injEq, Option.some.injEq, Addr.mk.injEq] at h1
    obtain ⟨⟨rfl, rfl, _⟩, _, _⟩ := h1
    rw [cell_of_row w _ _ cur e _ hb]
    exact h2 j u hv
theorem At.winCut (i l : Nat) {e b o n c : Nat} {xs : List Value} (hi : H[i]? = some (winR (.slice (some ⟨b, o, none⟩) n c) e xs)) (hl : l ≤ xs.length)
    (k : At Γ E (H.set i (winR (.slice (some ⟨b, if c = l then o else o + l * 1, none⟩) (n - l) (c - l)) e (xs.drop l))) φ) : At Γ E H φ := fun a w ha hw => by
  have h : Win w (.slice (some ⟨b, o, none⟩) n c) e xs := hw.all _ (List.mem_of_getElem? hi)
  refine k a w ha (hw.change hi (Mod.refl _ _) ?_ (fun b' hb => .inl hb))
  rcases h with ⟨h1, _⟩ | ⟨b', o', c', cur, h1, hb, g1, g2, g3, g4⟩
  · cases h1
  · simp only [Value.slice.injEq, Option.some.injEq, Addr.mk.injEq] at h1
    obtain ⟨⟨rfl, rfl, _⟩, rfl, rfl⟩ := h1
    refine .inr ⟨b, _, _, cur, by rw [List.length_drop], hb, by rw [List.length_drop]; omega, by omega, ?_, fun j u hj => ?_⟩
    · split <;> omega
    · rw [List.getElem?_drop] at hj
      have hlt := (List.getElem?_eq_some_iff.1 hj).1
      rw [if_neg (by omega), Nat.mul_one, Nat.add_assoc]
      exact g4 _ _ hj
theorem At.appendWin1 {i j t e by_ b' U : Nat} {ti : TypeInfo} {z : Value} {xs : List Value} (ht : P.underlying t = some (.slice e)) (hti : P.info? e = some ti) (hz : ti.zero = some z) (hsize : ti.size = 1) (hby : ti.bytes = by_) (hzs : z.cells.size = 1)
    (hx : ev E x = some v) (hy : ev E y = some (.slice (some ⟨b', 0, none⟩) 1 1)) (hi : H[i]? = some (winR v e xs)) (hj : H[j]? = some (blk b' U [u])) (h1 : u.oneCell' = true) (h63 : (xs.length + 1) * by_ ≤ 140737488355328) (h64 : xs.length + 1 ≤ 140737488355328) (hn : Nat.blt d Γ.n = true)
    (k : ∀ v', At Γ ((d, v') :: E) (H.set i (winR v' e (xs ++ [u]))) (wpList P ops Q rest)) :
    At Γ E H (wpList P ops Q ({ dst := some d, op := .call { callee := .builtin .append, args := #[x, y], argTypes := #[t, t] }, type := ty, pos, after, guard := none } :: rest)) :=
  At.run rfl rfl hn fun a w ha hw => by
    have h : Win w v e xs := hw.all _ (List.mem_of_getElem? hi)
    have hc : ∀ j' u', ([u] : List Value)[j']? = some u' → w.cell? ((⟨b', 0, none⟩ : Addr).add j') = some u' := fun j' u' hj' => by rw [Addr.add_off, Nat.zero_add]; exact ((hw.blk hj).cell j').trans hj'
    have h1' : ∀ q ∈ [u], q.oneCell' = true := by simpa using h1
    rcases h with ⟨rfl, rfl⟩ | ⟨b, o, c, cur, rfl, hb, g1, g2, g3, g4⟩
    · obtain ⟨v', w', hr, ho, hg, hf⟩ := run_append_row (P := P) (ty := ty) ht hti hz hsize hby hzs (by omega) (w := w) (v := .slice none 0 0) (n := 0) (xs := []) ⟨by simp, .inl ⟨rfl, rfl⟩⟩ (a := ⟨b', 0, none⟩) (m := 1) (c := 1) (news := [u]) rfl hc h1' (by simp [maxLen]) (by simpa using h63)
      exact ⟨v', w', _, by simp [execOp, resolve, invoke, builtin, ha.eval hx, ha.eval hy, Sem.run_bind, hr], hw.change (r' := winR v' e ([] ++ [u])) hi (grown_mod hg) (own_win ho) hf, k v'⟩
    · by_cases hroom : xs.length + 1 ≤ c
      · have hcell : ∀ q, q < cur.size → w.cell? ⟨b, q, none⟩ = some (cur[q]?.getD undef) := fun q hq => by rw [cell_of_row w _ _ cur e _ hb, Array.getElem?_eq_getElem hq]; rfl
        have hr := run_append_room_cells (P := P) (w := w) t ty e ti ht hti b o xs.length c ⟨b', 0, none⟩ 1 1 [u] (by rw [hsize]; rfl) hc h1' hroom
          (fun j' hj' => by simp at hj'; subst hj'; rw [hsize, hcell _ (by omega)]; rfl) (fun j' hj' => by simp [World.frozen?, hb])
        refine ⟨_, _, _, by simp [execOp, resolve, invoke, builtin, ha.eval hx, ha.eval hy, Sem.run_bind, hr]; exact ⟨rfl, rfl⟩, ?_, k _⟩
        refine hw.change (r' := winR (.slice (some ⟨b, o, none⟩) (xs.length + 1) c) e (xs ++ [u])) hi ?_ ?_ (fun b hb => .inl hb)
        · exact (Mod.setCell w ⟨b, _, none⟩ u).mono fun x' hx' => by subst hx'; rfl
        · refine .inr ⟨b, o, c, cur.setIfInBounds (o + xs.length * ti.size) u, by simp, ?_, by simpa using hroom, g2, by simpa using g3, fun j' u' hj' => ?_⟩
          · show (w.setCell ⟨b, o + xs.length * ti.size, none⟩ u).heap[b]? = _
            rw [setCell_eq_setRow w b _ cur e (0, 0) u hb, setRow_heap w b _ _ e (0, 0) hb]
          · rw [hsize, Nat.mul_one]
            rcases Nat.lt_or_ge j' xs.length with hlt | hge
            · rw [List.getElem?_append_left hlt] at hj'
              rw [Array.getElem?_setIfInBounds_ne (by omega)]
              exact g4 _ _ hj'
            · rw [List.getElem?_append_right hge] at hj'
              have : j' = xs.length := by
                have := (List.getElem?_eq_some_iff.1 hj').1
                simp at this; omega
              subst this
              rw [Nat.sub_self] at hj'
              have : u = u' := by simpa using hj'
              subst this
              rw [Array.getElem?_setIfInBounds_self, if_pos (by omega)]
      · obtain ⟨v', w', hr, ho, hg⟩ := run_append_arg_grows (P := P) (w := w) t ty e ti z 1 by_ ht hti hz hsize hby hzs (by omega) ⟨b, o, none⟩ xs.length c xs (by omega)
          (fun j' u' hj' => by rw [Addr.add_off, cell_of_row w _ _ cur e _ hb]; exact g4 _ _ hj') ⟨b', 0, none⟩ 1 1 [u] rfl hc (by omega) (by simp only [maxLen]; omega) h63
        exact ⟨v', w', _, by simp [execOp, resolve, invoke, builtin, ha.eval hx, ha.eval hy, Sem.run_bind, hr], hw.change (r' := winR v' e (xs ++ [u])) hi ((grown_none hg).mono fun b hb => hb.elim) (own_win ho) (fun q hq => .inr (own_block ho q hq)), k v'⟩
/-! ### a pointer against nil -/
theorem Val.neNil {t t' : TypeId} {p : Option Addr} (h : P.underlying t = some (.pointer (P.pointee t))) (hx : ev E x = some (.pointer p)) : Val P Γ E H ⟨dst, .binOp .neq t x (.const (.pointer none)) t', ty, pos, after, g⟩ (.bool p.isSome) := fun a w ha _ => by
  have hc : a.eval (.const (.pointer none)) = .pointer none := rfl
  cases p <;> simp [execOp, ha.eval hx, hc, eqGuard, run_neq_pointer_nil w t _ h]
theorem Val.eqNil {t t' : TypeId} {p : Option Addr} (h : P.underlying t = some (.pointer (P.pointee t))) (hx : ev E x = some (.pointer p)) : Val P Γ E H ⟨dst, .binOp .eql t x (.const (.pointer none)) t', ty, pos, after, g⟩ (.bool p.isNone) := fun a w ha _ => by
  have hc : a.eval (.const (.pointer none)) = .pointer none := rfl
  cases p <;> simp [execOp, ha.eval hx, hc, eqGuard, run_eql_pointer_nil w t _ h]
end
end Go.Wk
set_option linter.unusedVariables false
set_option linter.unusedSimpArgs false
namespace Go.Wk
open Go Go.ChangeMaps
abbrev kv (k : Int) : Value := .int .i64 k
/-- What a map's entries hold. -/
structure Ent (f : Int → Option Value) (E : Array MapEntry) (clock : Nat) : Prop where
  int : ∀ x ∈ E.toList, ∃ k, x.key = kv k
  keys : (E.toList.map (·.key)).Nodup
  stamps : (E.toList.map (·.born)).Nodup
  old : ∀ x ∈ E.toList, x.born < clock
  get : ∀ k v, f k = some v ↔ ∃ x ∈ E.toList, x.key = kv k ∧ x.val = v
theorem key_inj {l : List MapEntry} (h : (l.map (·.key)).Nodup) {x y : MapEntry} (hx : x ∈ l) (hy : y ∈ l) (e : x.key = y.key) : x = y := by
  induction l with
  | nil => cases hx
  | cons a l ih =>
    simp only [List.map_cons, List.nodup_cons, List.mem_map, not_exists, not_and] at h
    rcases List.mem_cons.1 hx with rfl | hx' <;> rcases List.mem_cons.1 hy with rfl | hy'
    · rfl
    · exact absurd e.symm (h.1 y hy')
    · exact absurd e (h.1 x hx')
    · exact ih h.2 hx' hy'
theorem Ent.find {f : Int → Option Value} {E : Array MapEntry} {clock : Nat} (h : Ent f E clock) (k : Int) :
    (Instr.findNow (.int .i64) (kv k) E.toList 0 = some none ∧ f k = none) ∨ ∃ j e, Instr.findNow (.int .i64) (kv k) E.toList 0 = some (some (j, e.val)) ∧ E.toList[j]? = some e ∧ e.key = kv k ∧ f k = some e.val := by
  have hk : MapKept.IsKey (.int .i64) (kv k) := by simp [MapKept.IsKey]
  rcases MapKept.findNow_spec hk E.toList 0 (fun x hx => by obtain ⟨q, hq⟩ := h.int x hx; rw [hq]; simp [MapKept.IsKey]) with ⟨h1, h2⟩ | ⟨j, e, h1, h2, h3⟩
  · refine .inl ⟨h1, ?_⟩
    cases hf : f k with
    | none => rfl
    | some v => obtain ⟨x, hx, hxk, _⟩ := (h.get k v).1 hf; exact absurd hxk (h2 x hx)
  · exact .inr ⟨j, e, by simpa using h1, h2, h3, (h.get k _).2 ⟨e, List.mem_of_getElem? h2, h3, rfl⟩⟩
theorem Ent.nil (clock : Nat) : Ent (fun _ => none) #[] clock := ⟨by simp, by simp, by simp, by simp, by simp⟩
theorem Ent.push {f : Int → Option Value} {E : Array MapEntry} {clock : Nat} (h : Ent f E clock) {k : Int} (hk : f k = none) (v : Value) : Ent (fun x => if x = k then some v else f x) (E.push { key := kv k, val := v, born := clock }) (clock + 1) := by
  have hno : ∀ x ∈ E.toList, x.key ≠ kv k := fun x hx e => by
    have := (h.get k x.val).2 ⟨x, hx, e, rfl⟩
    rw [hk] at this; cases this
  refine ⟨fun x hx => ?_, ?_, ?_, fun x hx => ?_, fun q u => ?_⟩
  · simp only [Array.toList_push, List.mem_append, List.mem_singleton] at hx
    rcases hx with hx | rfl
    · exact h.int x hx
    · exact ⟨k, rfl⟩
  · simp only [Array.toList_push, List.map_append, List.map_cons, List.map_nil]
    refine List.nodup_append.2 ⟨h.keys, by simp, fun a ha b hb => ?_⟩
    obtain ⟨x, hx, rfl⟩ := List.mem_map.1 ha
    rw [List.mem_singleton.1 hb]
    exact hno x hx
  · simp only [Array.toList_push, List.map_append, List.map_cons, List.map_nil]
    refine List.nodup_append.2 ⟨h.stamps, by simp, fun a ha b hb => ?_⟩
    obtain ⟨x, hx, rfl⟩ := List.mem_map.1 ha
    rw [List.mem_singleton.1 hb]
    have := h.old x hx
    show x.born ≠ clock
    omega
  · simp only [Array.toList_push, List.mem_append, List.mem_singleton] at hx
    rcases hx with hx | rfl
    · have := h.old x hx; omega
    · simp
  · simp only [Array.toList_push, List.mem_append, List.mem_singleton]
    by_cases hq : q = k
    · subst hq
      simp only [if_true]
      constructor
      · intro e; have e := Option.some.inj e; subst e; exact ⟨_, .inr rfl, rfl, rfl⟩
      · rintro ⟨x, hx | rfl, h1, h2⟩
        · exact absurd h1 (hno x hx)
        · rw [← h2]
    · rw [if_neg hq, h.get q u]
      constructor
      · rintro ⟨x, hx, h1, h2⟩; exact ⟨x, .inl hx, h1, h2⟩
      · rintro ⟨x, hx | rfl, h1, h2⟩
        · exact ⟨x, hx, h1, h2⟩
        · simp only [kv, Value.int.injEq, true_and] at h1; exact absurd h1.symm hq
theorem Ent.erase {f : Int → Option Value} {E E' : Array MapEntry} {clock j : Nat} {e : MapEntry} (h : Ent f E clock) {k : Int} (hj : E.toList[j]? = some e) (hk : e.key = kv k) (hE : E'.toList = E.toList.eraseIdx j) : Ent (fun x => if x = k then none else f x) E' clock := by
  have hs : (E.toList.eraseIdx j).Sublist E.toList := List.eraseIdx_sublist ..
  have hm : ∀ x, x ∈ E'.toList ↔ x ∈ E.toList ∧ x.key ≠ kv k := fun x => by
    rw [hE, List.mem_eraseIdx_iff_getElem?]
    constructor
    · rintro ⟨i, hne, hi⟩
      refine ⟨List.mem_of_getElem? hi, fun e1 => hne ?_⟩
      have hxe : x = e := key_inj h.keys (List.mem_of_getElem? hi) (List.mem_of_getElem? hj) (e1.trans hk.symm)
      subst hxe
      have h1 := (List.getElem?_eq_some_iff.1 hi)
      have h2 := (List.getElem?_eq_some_iff.1 hj)
      have hn : E.toList.Nodup := List.Pairwise.imp (fun {a b} hab e => hab (congrArg MapEntry.key e)) (List.pairwise_map.1 h.keys)
      rcases Nat.lt_trichotomy i j with hlt | hlt | hlt
      · exact absurd (h1.2.trans h2.2.symm) (List.pairwise_iff_getElem.1 hn i j h1.1 h2.1 hlt)
      · exact hlt
      · exact absurd (h2.2.trans h1.2.symm) (List.pairwise_iff_getElem.1 hn j i h2.1 h1.1 hlt)
    · rintro ⟨hx, hne⟩
      obtain ⟨i, hi⟩ := List.getElem?_of_mem hx
      refine ⟨i, fun e1 => hne ?_, hi⟩
      rw [e1, hj] at hi; cases hi; exact hk
  refine ⟨fun x hx => h.int x ((hm x).1 hx).1, ?_, ?_, fun x hx => h.old x ((hm x).1 hx).1, fun q u => ?_⟩
  · rw [hE]; exact h.keys.sublist (hs.map _)
  · rw [hE]; exact h.stamps.sublist (hs.map _)
  · by_cases hq : q = k
    · subst hq
      simp only [if_true]
      constructor
      · intro e; cases e
      · rintro ⟨x, hx, h1, h2⟩; exact absurd h1 ((hm x).1 hx).2
    · rw [if_neg hq, h.get q u]
      constructor
      · rintro ⟨x, hx, h1, h2⟩
        refine ⟨x, (hm x).2 ⟨hx, fun e1 => hq ?_⟩, h1, h2⟩
        rw [h1] at e1; simpa [kv] using e1
      · rintro ⟨x, hx, h1, h2⟩; exact ⟨x, ((hm x).1 hx).1, h1, h2⟩
def mapR (b : Nat) (f : Int → Option Value) : Res where
  foot := fun x => x = b
  holds := fun w => ∃ E clock, w.heap[b]? = some (.map E clock) ∧ Ent f E clock
  stable := fun h ⟨E, clock, hb, he⟩ => ⟨E, clock, (h b rfl).trans hb, he⟩
  low := fun ⟨E, clock, hb, he⟩ x hx => by subst hx; exact (Array.getElem?_eq_some_iff.1 hb).1
/-- A map, and an iterator over it: left: which keys are still to come; cur: the entry that came last; cnt: how many are to come. -/
def iterR (b r : Nat) (f : Int → Option Value) (left : Int → Bool) (cur : Option (Int × Value)) (cnt : Nat) : Res where
  foot := fun x => x = b ∨ x = r
  holds := fun w => ∃ E clock since seen c0, r ≠ b ∧ w.heap[b]? = some (.map E clock) ∧ Ent f E clock ∧ w.heap[r]? = some (.mapIter (some b) since seen c0) ∧ (∀ x ∈ E.toList, x.born < since) ∧ since ≤ c0 ∧ since ≤ clock ∧
    (∀ x ∈ E.toList, ∀ k, x.key = kv k → left k = !seen.contains x.born) ∧ (∀ k, left k = true → f k ≠ none) ∧ (leftOf E seen).size = cnt ∧ (∀ k v, cur = some (k, v) → c0 = clock ∧ ∃ (s : Array Nat) (x : MapEntry), seen = s.push x.born ∧ x ∈ E.toList ∧ x.key = kv k ∧ x.val = v)
  stable := fun h ⟨E, clock, since, seen, c0, hne, hb, he, hr, hh⟩ => ⟨E, clock, since, seen, c0, hne, (h b (.inl rfl)).trans hb, he, (h r (.inr rfl)).trans hr, hh⟩
  low := fun ⟨E, clock, since, seen, c0, hne, hb, he, hr, hh⟩ x hx => by
    rcases hx with rfl | rfl
    · exact (Array.getElem?_eq_some_iff.1 hb).1
    · exact (Array.getElem?_eq_some_iff.1 hr).1
section
variable {P : Program} {Γ : Ctx} {E : Env} {H L F : List Res} {ops : Array Oper} {Q : Exit → Act → World → Prop} {rest : List Oper} {w0 w w' : World} {S : Nat → Prop} {φ : Act → World → Prop}
  {d : Nat} {dst : Option Tmp} {g : Option (Nat × Bool)} {ty : TypeId} {pos : String} {after : Array Edge} {x y z : Operand} {v u : Value} {f : Int → Option Value} {left : Int → Bool} {cur : Option (Int × Value)} {cnt b r i : Nat} {t kt et : TypeId}
theorem Mod.setBlock (w : World) (b : Nat) (o : Obj) : Mod (fun x => x = b) w (setBlock w b o) :=
  ⟨by simp [ChangeMaps.setBlock], fun x _ hn => by simp only [ChangeMaps.setBlock]; rw [Array.getElem?_setIfInBounds_ne (Ne.symm hn)], rfl, rfl, rfl⟩
theorem setBlock_at {w : World} {b : Nat} {o o' : Obj} (h : w.heap[b]? = some o) : (setBlock w b o').heap[b]? = some o' := by
  have := (Array.getElem?_eq_some_iff.1 h).1
  simp [ChangeMaps.setBlock, this]
theorem setBlock_ne {w : World} {b b' : Nat} {o' : Obj} (h : b' ≠ b) : (setBlock w b o').heap[b']? = w.heap[b']? := by
  simp only [ChangeMaps.setBlock]; rw [Array.getElem?_setIfInBounds_ne (Ne.symm h)]
theorem run_setMap {w : World} {r : Nat} {es : Array MapEntry} {clock : Nat} (o : Obj) (hb : w.heap[r]? = some (.map es clock)) : (setObj r o).run P w = .ok () (setBlock w r o) := MapKept.run_setObj_map o hb
theorem Val.look {k : Int} (hu : P.underlying t = some (.map kt et)) (hk : P.underlying kt = some (.int .i64)) (hz : ∀ w, (zeroValue et).run P w = .ok (.pointer none) w) (hx : ev E x = some (.map (some b))) (hy : ev E y = some (.int .i64 k)) (hi : H[i]? = some (mapR b f)) :
    Val P Γ E H ⟨dst, .lookup t x y false, ty, pos, after, g⟩ ((f k).getD (.pointer none)) := fun a w ha hw => by
  obtain ⟨es, clock, hb, he⟩ : ∃ es clock, w.heap[b]? = some (.map es clock) ∧ Ent f es clock := hw.all _ (List.mem_of_getElem? hi)
  have hck := fun e => MapKept.run_checkKey (P := P) (w := w) (k := kv k) hk (by simp [MapKept.IsKey]) e 9999
  rcases he.find k with ⟨h1, h2⟩ | ⟨j, e, h1, h2, h3, h4⟩
  · simp [execOp, ha.eval hx, ha.eval hy, Instr.lookup, Sem.run_bind, run_underlying hu, MapKept.run_getObj_map hb, hck, MapKept.run_findKey hk h1, hz, h2]
  · simp [execOp, ha.eval hx, ha.eval hy, Instr.lookup, Sem.run_bind, run_underlying hu, MapKept.run_getObj_map hb, hck, MapKept.run_findKey hk h1, h4]
theorem At.mapSet {k : Int} (hu : P.underlying t = some (.map kt et)) (hk : P.underlying kt = some (.int .i64)) (hx : ev E x = some (.map (some b))) (hy : ev E y = some (.int .i64 k)) (hz : ev E z = some v) (hi : H[i]? = some (mapR b f)) (hf : f k = none)
    (c : At Γ E (H.set i (mapR b fun q => if q = k then some v else f q)) (wpList P ops Q rest)) : At Γ E H (wpList P ops Q ({ dst := .none, op := .mapUpdate t x y z, type := ty, pos, after, guard := none } :: rest)) :=
  At.skip rfl rfl fun a w ha hw => by
    obtain ⟨es, clock, hb, he⟩ : ∃ es clock, w.heap[b]? = some (.map es clock) ∧ Ent f es clock := hw.all _ (List.mem_of_getElem? hi)
    have hck := fun e => MapKept.run_checkKey (P := P) (w := w) (k := kv k) hk (by simp [MapKept.IsKey]) e 9999
    rcases he.find k with ⟨h1, h2⟩ | ⟨j, e, h1, h2, h3, h4⟩
    · refine ⟨_, _, by simp [execOp, ha.eval hx, ha.eval hy, ha.eval hz, Instr.mapUpdate, Sem.run_bind, run_underlying hu, MapKept.run_getObj_map hb, hck, MapKept.run_findKey hk h1, run_setMap _ hb]; rfl, ?_, c⟩
      exact hw.change (r' := mapR b _) hi (Mod.setBlock w b _) ⟨_, _, setBlock_at hb, he.push hf v⟩ (fun b hb => .inl hb)
    · rw [hf] at h4; cases h4
theorem At.makeMap (hn : Nat.blt d Γ.n = true) (c : ∀ b, At Γ ((d, .map (some b)) :: E) (mapR b (fun _ => none) :: H) (wpList P ops Q rest)) :
    At Γ E H (wpList P ops Q ({ dst := some d, op := .makeMap t .none, type := ty, pos, after, guard := none } :: rest)) :=
  At.run rfl rfl hn fun a w ha hw => ⟨.map (some w.heap.size), w.alloc (.map #[] 0), _, by
    have h0 : (Instr.makeMap t none).run P w = .ok (.map (some w.heap.size)) (w.alloc (.map #[] 0)) := rfl
    simp [execOp, Sem.run_bind, h0], hw.new (r' := mapR w.heap.size fun _ => none) (Mod.alloc w _) ⟨#[], 0, heap_alloc_new w _, Ent.nil 0⟩ (fun b hb => by simp only [mapR] at hb; omega), c _⟩
theorem At.range (hu : P.underlying t = some (.map kt et)) (hx : ev E x = some (.map (some b))) (hi : H[i]? = some (mapR b f)) (hn : Nat.blt d Γ.n = true)
    (c : ∀ r cnt, At Γ ((d, .pointer (some ⟨r, 0, none⟩)) :: E) (H.set i (iterR b r f (fun k => (f k).isSome) none cnt)) (wpList P ops Q rest)) :
    At Γ E H (wpList P ops Q ({ dst := some d, op := .range t x, type := ty, pos, after, guard := none } :: rest)) :=
  At.run rfl rfl hn fun a w ha hw => by
    obtain ⟨es, clock, hb, he⟩ : ∃ es clock, w.heap[b]? = some (.map es clock) ∧ Ent f es clock := hw.all _ (List.mem_of_getElem? hi)
    have hlt := (Array.getElem?_eq_some_iff.1 hb).1
    refine ⟨_, _, _, by simp [execOp, ha.eval hx, Sem.run_bind, run_range_map w t kt et b es clock hu hb]; exact ⟨rfl, rfl⟩, ?_, c _ (leftOf es #[]).size⟩
    refine hw.change (r' := iterR b w.heap.size f _ none _) hi ((Mod.alloc w _).mono fun b hb => hb.elim) ⟨es, clock, clock, #[], clock, by omega, (heap_alloc_old w _ hlt).trans hb, he, heap_alloc_new w _, he.old, Nat.le_refl _, Nat.le_refl _, fun q hq k hk => ?_, fun k hk => ?_, rfl, (fun k v h => by cases h)⟩ (fun q hq => ?_)
    · show (f k).isSome = _
      rw [(he.get k q.val).2 ⟨q, hq, hk, rfl⟩]; simp
    · intro h0
      have hk : (f k).isSome = true := hk
      rw [h0] at hk; cases hk
    · rcases hq with rfl | rfl
      · exact .inl rfl
      · exact .inr (Nat.le_refl _)
theorem At.next (hx : ev E x = some (.pointer (some ⟨r, 0, none⟩))) (hi : H[i]? = some (iterR b r f left cur cnt)) (hn : Nat.blt d Γ.n = true)
    (c0 : (∀ k, left k = false) → At Γ ((d, .tuple #[.bool false]) :: E) H (wpList P ops Q rest))
    (c1 : ∀ k v cnt', left k = true → f k = some v → cnt' < cnt → At Γ ((d, .tuple #[.bool true, .int .i64 k, v]) :: E) (H.set i (iterR b r f (fun q => left q && q != k) (some (k, v)) cnt')) (wpList P ops Q rest)) :
    At Γ E H (wpList P ops Q ({ dst := some d, op := .next x false, type := ty, pos, after, guard := none } :: rest)) :=
  At.run rfl rfl hn fun a w ha hw => by
    obtain ⟨es, clock, since, seen, co, hne, hb, he, hr, hold, hs1, hs2, hl1, hl2, hcnt, hcur⟩ : (iterR b r f left cur cnt).holds w := hw.all _ (List.mem_of_getElem? hi)
    rcases run_next_at (P := P) w ty r b since co seen es clock hr hb hold hs1 with ⟨h0, hrun⟩ | ⟨e, hel, w1, hal, hrun⟩
    · refine ⟨.tuple #[.bool false], w, H, by simp [execOp, ha.eval hx, Sem.run_bind, hrun], hw, c0 fun k => ?_⟩
      cases hk : left k with
      | false => rfl
      | true =>
        have := hl2 k hk
        cases hf : f k with
        | none => exact absurd hf this
        | some v =>
          obtain ⟨q, hq, h1, h2⟩ := (he.get k v).1 hf
          have h3 := hl1 q hq k h1
          rw [all_seen es seen h0 q hq, hk] at h3
          cases h3
    · obtain ⟨hem, hes⟩ := mem_left hel
      obtain ⟨k, hk⟩ := he.int e hem
      have hfk := (he.get k e.val).2 ⟨e, hem, hk, rfl⟩
      have hw1 : Rep Γ.w0 Γ.S H w1 := by rcases hal with rfl | rfl; exact hw; exact hw.drew
      have hr1 : w1.heap[r]? = some (.mapIter (some b) since seen co) := by rcases hal with rfl | rfl <;> exact hr
      have hb1 : w1.heap[b]? = some (.map es clock) := by rcases hal with rfl | rfl <;> exact hb
      refine ⟨_, _, _, by simp [execOp, ha.eval hx, Sem.run_bind, hrun]; exact ⟨rfl, rfl⟩, ?_, by
        have := c1 k e.val (leftOf es (seen.push e.born)).size (by rw [hl1 e hem k hk, hes]; rfl) hfk (by rw [← hcnt]; exact left_shrinks es seen e hel)
        rw [hk]; exact this⟩
      refine hw1.change (r' := iterR b r f _ (some (k, e.val)) _) hi ((Mod.setBlock w1 r _).mono fun q hq => .inr hq) ⟨es, clock, since, seen.push e.born, clock, hne, (setBlock_ne (Ne.symm hne)).trans hb1, he, setBlock_at hr1, hold, hs2, hs2, fun q hq k' hk' => ?_, fun k' hk' => hl2 k' (by simp at hk'; exact hk'.1), rfl, fun k' v' h' => ?_⟩ (fun q hq => .inl hq)
      · show (left k' && k' != k) = _
        rw [contains_push, hl1 q hq k' hk']
        by_cases hqe : q.born = e.born
        · have : q = e := by
            have hn := he.stamps
            exact born_inj hn hq hem hqe
          subst this
          rw [hk] at hk'
          have : k = k' := by simpa [kv] using hk'
          subst this
          simp
        · have h1 : (q.born == e.born) = false := by simpa using hqe
          have h2 : (k' != k) = true := by
            simp only [bne_iff_ne, ne_eq]
            intro e1; subst e1
            exact hqe (congrArg MapEntry.born (key_inj he.keys hq hem (hk'.trans hk.symm)))
          rw [h1, h2]; cases seen.contains q.born <;> rfl
      · simp only [Option.some.injEq, Prod.mk.injEq] at h'
        obtain ⟨rfl, rfl⟩ := h'
        exact ⟨rfl, seen, e, rfl, hem, hk, rfl⟩
theorem Val.entry {k : Int} (hx : ev E x = some (.pointer (some ⟨r, 0, none⟩))) (hi : H[i]? = some (iterR b r f left (some (k, v)) cnt)) :
    Val P Γ E H ⟨dst, .entry x, ty, pos, after, g⟩ (.tuple #[.int .i64 k, v]) := fun a w ha hw => by
  obtain ⟨es, clock, since, seen, co, hne, hb, he, hr, hold, hs1, hs2, hl1, hl2, hcnt, hcur⟩ : (iterR b r f left (some (k, v)) cnt).holds w := hw.all _ (List.mem_of_getElem? hi)
  obtain ⟨rfl, s, e, rfl, hem, hk, rfl⟩ := hcur k v rfl
  have := run_entry_at (P := P) w r b since s es _ e hr hb hem he.stamps
  simp [execOp, ha.eval hx, Sem.run_bind, this, hk]
theorem At.delIt {k : Int} (hu : P.underlying t = some (.map kt et)) (hk : P.underlying kt = some (.int .i64)) (hx : ev E x = some (.map (some b))) (hy : ev E y = some (.int .i64 k)) (hi : H[i]? = some (iterR b r f left cur cnt))
    (c : ∀ cnt', cnt' ≤ cnt → At Γ E (H.set i (iterR b r (fun q => if q = k then none else f q) (fun q => left q && q != k) none cnt')) (wpList P ops Q rest)) :
    At Γ E H (wpList P ops Q ({ dst := .none, op := .call { callee := .builtin .delete, args := #[x, y], argTypes := #[t, kt] }, type := ty, pos, after, guard := none } :: rest)) := fun a w ha hw => by
  obtain ⟨es, clock, since, seen, co, hne, hb, he, hr, hold, hs1, hs2, hl1, hl2, hcnt, hcur⟩ : (iterR b r f left cur cnt).holds w := hw.all _ (List.mem_of_getElem? hi)
  have hck := fun e => MapKept.run_checkKey (P := P) (w := w) (k := kv k) hk (by simp [MapKept.IsKey]) e 9999
  have fin : ∀ (es' : Array MapEntry) (w' : World), (execOp a.eval { dst := .none, op := .call { callee := .builtin .delete, args := #[x, y], argTypes := #[t, kt] }, type := ty, pos, after, guard := none }).run P w = .ok (.value (.tuple #[])) w' → w' = setBlock w b (.map es' clock) →
      Ent (fun q => if q = k then none else f q) es' clock → (∀ q, q ∈ es'.toList → q ∈ es.toList) → (∀ q, q ∈ es'.toList → q.key ≠ kv k) → (leftOf es' seen).size ≤ cnt → wpList P ops Q ({ dst := .none, op := .call { callee := .builtin .delete, args := #[x, y], argTypes := #[t, kt] }, type := ty, pos, after, guard := none } :: rest) a w := fun es' w' hrun hw' he' hsub hnk hle => by
    refine wpList_plain rfl fun K hK => ?_
    unfold Oper.wp
    rw [hrun, Oper.upon_value]
    refine hK _ _ (c _ hle _ _ ha ?_)
    subst hw'
    refine hw.change (r' := iterR b r _ _ none _) hi ((Mod.setBlock w b _).mono fun q hq => .inl hq) ⟨es', clock, since, seen, co, hne, setBlock_at hb, he', (setBlock_ne hne).trans hr, fun q hq => hold q (hsub q hq), hs1, hs2, fun q hq k' hk' => ?_, fun k' hk' => ?_, rfl, (fun k v h => by cases h)⟩ (fun q hq => .inl hq)
    · show (left k' && k' != k) = _
      rw [hl1 q (hsub q hq) k' hk']
      have : (k' != k) = true := by
        simp only [bne_iff_ne, ne_eq]
        intro e1; subst e1
        exact hnk q hq hk'
      rw [this]; simp
    · have hk' : (left k' && k' != k) = true := hk'
      simp only [Bool.and_eq_true, bne_iff_ne, ne_eq] at hk'
      show (if k' = k then none else f k') ≠ none
      rw [if_neg hk'.2]
      exact hl2 k' hk'.1
  rcases he.find k with ⟨h1, h2⟩ | ⟨j, e, h1, h2, h3, h4⟩
  · refine fin es _ (by simp [execOp, resolve, invoke, builtin, ha.eval hx, ha.eval hy, Builtin.delete_, Sem.run_bind, run_underlying hu, MapKept.run_getObj_map hb, hck, MapKept.run_findKey hk h1, run_setMap _ hb]) rfl ?_ (fun q h => h) (fun q hq e => ?_) (Nat.le_of_eq hcnt)
    · have : (fun q => if q = k then none else f q) = f := funext fun q => by split; · rename_i e; rw [e, h2]
                                                                              · rfl
      rw [this]; exact he
    · have := (he.get k q.val).2 ⟨q, hq, e, rfl⟩
      rw [h2] at this; cases this
  · have hjs : j < es.size := by have := (List.getElem?_eq_some_iff.1 h2).1; simpa using this
    have hE : (es.eraseIdxIfInBounds j).toList = es.toList.eraseIdx j := by
      unfold Array.eraseIdxIfInBounds
      rw [dif_pos hjs]; simp
    have he' := he.erase h2 h3 hE
    have hsub : ∀ q, q ∈ (es.eraseIdxIfInBounds j).toList → q ∈ es.toList := fun q hq => (List.eraseIdx_sublist ..).subset (hE ▸ hq)
    refine fin (es.eraseIdxIfInBounds j) _ (by simp [execOp, resolve, invoke, builtin, ha.eval hx, ha.eval hy, Builtin.delete_, Sem.run_bind, run_underlying hu, MapKept.run_getObj_map hb, hck, MapKept.run_findKey hk h1, run_setMap _ hb]) rfl he' hsub (fun q hq e1 => ?_) ?_
    · have := (he'.get k q.val).2 ⟨q, hq, e1, rfl⟩
      simp at this
    · rw [← hcnt]
      unfold leftOf
      have e1 : ∀ (a : Array MapEntry) (p : MapEntry → Bool), (a.filter p).size = (a.toList.filter p).length := fun a p => by rw [← Array.toList_filter, Array.length_toList]
      rw [e1, e1, hE]
      exact ((List.eraseIdx_sublist _ _).filter _).length_le
theorem At.iterEnd (i : Nat) (hi : H[i]? = some (iterR b r f left cur cnt)) (k : At Γ E (H.set i (mapR b f)) φ) : At Γ E H φ := fun a w ha hw => by
  obtain ⟨es, clock, since, seen, co, hne, hb, he, hr, hh⟩ : (iterR b r f left cur cnt).holds w := hw.all _ (List.mem_of_getElem? hi)
  exact k a w ha (hw.change (r' := mapR b f) hi (Mod.refl _ _) ⟨es, clock, hb, he⟩ (fun q hq => .inl (.inl hq)))
end
end Go.Wk
set_option linter.unusedVariables false
set_option linter.unusedSimpArgs false
namespace Go.Wk
open Go Go.ChangeMaps
/-- A word: its durable value, the values since, how many of them the next fence makes durable. -/
structure Wd where
  old : BitVec 64
  news : List (BitVec 64)
  mark : Nat
structure Ds where
  ws : List Wd
  steps : Nat
  armed : Bool
  left : Nat
/-- Where its parts lie: the old values' slice, the map's block, each doubt's block and slice. -/
structure Gh where
  vo : Value
  mb : Nat
  g : Nat → Nat × Value
abbrev tDv : TypeId := 92
abbrev tDb : TypeId := 85
abbrev tW : TypeId := 65
def olds (ws : List Wd) : List (BitVec 64) := ws.map (·.old)
def dR (p : Nat × Value) (w : Wd) : Res := star [blk p.1 tDb [p.2, .int .i64 (w.mark : Int)], winR p.2 tW (w.news.map b64)]
def dI (ws : List Wd) (g : Nat → Nat × Value) (k : Nat) : Option Res := match ws[k]? with | some w => (match w.news with | [] => none | _ => some (dR (g k) w)) | none => none
def mkN (ws : List Wd) (g : Nat → Nat × Value) (k : Nat) : Option Value := match ws[k]? with | some w => (match w.news with | [] => none | _ => some (.pointer (some ⟨(g k).1, 0, none⟩))) | none => none
def mk (ws : List Wd) (g : Nat → Nat × Value) (x : Int) : Option Value := if 0 ≤ x ∧ x % 8 = 0 then mkN ws g (x / 8).toNat else none
structure Dgood (σ : Ds) : Prop where
  pos : 0 < σ.ws.length
  len : σ.ws.length ≤ 65536
  lines : σ.ws.length % 8 = 0
  steps : σ.steps ≤ 10000000000000
  left : σ.left ≤ 9223372036854775807
  word : ∀ w ∈ σ.ws, w.mark ≤ w.news.length ∧ w.news.length ≤ σ.steps
def devL (p : Nat) (γ : Gh) (σ : Ds) : List Res :=
  [blk p tDv [γ.vo, .map (some γ.mb), .int .i64 (σ.steps : Int), .bool σ.armed, .int .i64 (σ.left : Int)], wrow tW γ.vo (olds σ.ws), mapR γ.mb (mk σ.ws γ.g), fam (dI σ.ws γ.g), factR (Dgood σ)]
def Dev (p : Nat) (γ : Gh) (σ : Ds) : Res := star (devL p γ σ)
theorem Dev.good {p γ σ} {w : World} (h : (Dev p γ σ).holds w) : Dgood σ := h.2 (factR (Dgood σ)) (by simp [devL])
theorem olds_length (ws : List Wd) : (olds ws).length = ws.length := by simp [olds]
theorem olds_at {ws : List Wd} {k : Nat} {wd : Wd} (h : ws[k]? = some wd) : (olds ws)[k]? = some wd.old := by simp [olds, h]
theorem olds_set (ws : List Wd) (k : Nat) (wd : Wd) : olds (ws.set k wd) = (olds ws).set k wd.old := by simp [olds, List.map_set]
theorem olds_same {ws : List Wd} {k : Nat} {wd wd' : Wd} (h : ws[k]? = some wd) (he : wd'.old = wd.old) : olds (ws.set k wd') = olds ws := by
  rw [olds_set, he]
  apply List.ext_getElem?
  intro j
  rw [List.getElem?_set]
  split
  · rename_i e; subst e
    have := olds_at h
    rw [this]; simp [(List.getElem?_eq_some_iff.1 this).1]
  · rfl
theorem dI_some {ws : List Wd} {g : Nat → Nat × Value} {k : Nat} {wd : Wd} (hk : ws[k]? = some wd) (hn : wd.news ≠ []) : dI ws g k = some (dR (g k) wd) := by
  unfold dI; rw [hk]; cases h : wd.news with
  | nil => exact absurd h hn
  | cons a l => simp only [h]
theorem dI_none {ws : List Wd} {g : Nat → Nat × Value} {k : Nat} {wd : Wd} (hk : ws[k]? = some wd) (hn : wd.news = []) : dI ws g k = none := by
  unfold dI; rw [hk]; simp only [hn]
theorem dI_ne {ws : List Wd} {g g' : Nat → Nat × Value} {k j : Nat} {wd : Wd} (hj : j ≠ k) (hg : g' j = g j) : dI (ws.set k wd) g' j = dI ws g j := by
  unfold dI; rw [List.getElem?_set_ne (Ne.symm hj), hg]
theorem mkN_some {ws : List Wd} {g : Nat → Nat × Value} {k : Nat} {wd : Wd} (hk : ws[k]? = some wd) (hn : wd.news ≠ []) : mkN ws g k = some (.pointer (some ⟨(g k).1, 0, none⟩)) := by
  unfold mkN; rw [hk]; cases h : wd.news with
  | nil => exact absurd h hn
  | cons a l => simp only [h]
theorem mkN_none {ws : List Wd} {g : Nat → Nat × Value} {k : Nat} {wd : Wd} (hk : ws[k]? = some wd) (hn : wd.news = []) : mkN ws g k = none := by
  unfold mkN; rw [hk]; simp only [hn]
theorem mkN_ne {ws : List Wd} {g g' : Nat → Nat × Value} {k j : Nat} {wd : Wd} (hj : j ≠ k) (hg : g' j = g j) : mkN (ws.set k wd) g' j = mkN ws g j := by
  unfold mkN; rw [List.getElem?_set_ne (Ne.symm hj), hg]
theorem mk_at (ws : List Wd) (g : Nat → Nat × Value) (k : Nat) : mk ws g (8 * (k : Int)) = mkN ws g k := by
  unfold mk; rw [if_pos (by omega)]; congr 1; omega
theorem mk_inv {ws : List Wd} {g : Nat → Nat × Value} {x : Int} {v : Value} (h : mk ws g x = some v) : ∃ (k : Nat) (wd : Wd), x = 8 * (k : Int) ∧ ws[k]? = some wd ∧ wd.news ≠ [] ∧ v = .pointer (some ⟨(g k).1, 0, none⟩) := by
  unfold mk at h
  split at h
  · rename_i hx
    refine ⟨(x / 8).toNat, ?_⟩
    unfold mkN at h
    split at h
    · rename_i wd hwd
      split at h
      · cases h
      · rename_i hn
        exact ⟨wd, by omega, hwd, fun e => hn e, (Option.some.inj h).symm⟩
    · cases h
  · cases h
theorem mk_set {ws : List Wd} {g g' : Nat → Nat × Value} {k : Nat} {wd : Wd} (hg : ∀ j, j ≠ k → g' j = g j) : mk (ws.set k wd) g' = fun q => if q = 8 * (k : Int) then mkN (ws.set k wd) g' k else mk ws g q := by
  funext q
  by_cases hq : q = 8 * (k : Int)
  · subst hq; rw [if_pos rfl, mk_at]
  · rw [if_neg hq]
    unfold mk
    split
    · rename_i hx
      have hne : (q / 8).toNat ≠ k := fun e => hq (by omega)
      exact mkN_ne hne (hg _ hne)
    · rfl
theorem set_self? {ws : List Wd} {k : Nat} {wd : Wd} (h : k < ws.length) : (ws.set k wd)[k]? = some wd := by simp [h]
theorem mk_push {ws : List Wd} {g : Nat → Nat × Value} {k b : Nat} {v' : Value} {wd : Wd} (h : k < ws.length) (hn : wd.news ≠ []) : mk (ws.set k wd) (upd g k (b, v')) = fun q => if q = 8 * (k : Int) then some (.pointer (some ⟨b, 0, none⟩)) else mk ws g q := by
  rw [mk_set (g := g) (fun j hj => upd_ne g _ hj), mkN_some (set_self? h) hn, upd_at]
theorem mk_keep {ws : List Wd} {g : Nat → Nat × Value} {k : Nat} {v' : Value} {wd wd' : Wd} (h : ws[k]? = some wd) (hn : wd.news ≠ []) (hn' : wd'.news ≠ []) : mk (ws.set k wd') (upd g k ((g k).1, v')) = mk ws g := by
  rw [mk_push (List.getElem?_eq_some_iff.1 h).1 hn']
  funext q
  split
  · rename_i e; subst e; rw [mk_at, mkN_some h hn]
  · rfl
theorem mk_drop {ws : List Wd} {g : Nat → Nat × Value} {k : Nat} {wd : Wd} (h : k < ws.length) (hn : wd.news = []) : mk (ws.set k wd) g = fun q => if q = 8 * (k : Int) then none else mk ws g q := by
  rw [mk_set (g := g) (fun j hj => rfl), mkN_none (set_self? h) hn]
theorem fam_unf {ws : List Wd} {g : Nat → Nat × Value} {k b : Nat} {v' : Value} {wd : Wd} (h : k < ws.length) (hn : wd.news ≠ []) : upd (upd (dI ws g) k none) k (some (dR (b, v') wd)) = dI (ws.set k wd) (upd g k (b, v')) := by
  funext j
  by_cases hj : j = k
  · subst hj; rw [upd_at, dI_some (set_self? h) hn, upd_at]
  · rw [upd_ne _ _ hj, upd_ne _ _ hj, dI_ne hj (upd_ne g _ hj)]
theorem fam_drop {ws : List Wd} {g : Nat → Nat × Value} {k : Nat} {wd : Wd} (h : k < ws.length) (hn : wd.news = []) : upd (dI ws g) k none = dI (ws.set k wd) g := by
  funext j
  by_cases hj : j = k
  · subst hj; rw [upd_at, dI_none (set_self? h) hn]
  · rw [upd_ne _ _ hj, dI_ne hj rfl]
theorem upd_same {α : Type} (g : Nat → α) (k : Nat) : upd g k (g k) = g := by
  funext j; unfold upd; split
  · rename_i e; rw [e]
  · rfl
section
variable {P : Program} {Γ : Ctx} {E : Env} {H L F : List Res} {ops : Array Oper} {Q : Exit → Act → World → Prop} {rest : List Oper} {w0 w w' : World} {S : Nat → Prop} {φ : Act → World → Prop} {ψ : Act → Prop}
  {d : Nat} {dst : Option Tmp} {gd : Option (Nat × Bool)} {ty : TypeId} {pos : String} {after : Array Edge} {x y z : Operand} {v u : Value} {ws : List Wd} {g : Nat → Nat × Value} {k i : Nat} {wd : Wd} {p : Nat} {γ : Gh} {σ σ' : Ds}
theorem fam_dbt (h : (fam (dI ws g)).holds w) (hk : ws[k]? = some wd) (hn : wd.news ≠ []) : Holds w (g k).1 tDb [(g k).2, .int .i64 (wd.mark : Int)] ∧ Win w (g k).2 tW (wd.news.map b64) := by
  have h1 := h.1 k _ (dI_some hk hn)
  exact ⟨h1.2 (blk (g k).1 tDb _) (by simp), h1.2 (winR (g k).2 tW _) (by simp)⟩
theorem Val.loadDbt {t q : Nat} (hA : ∀ w, (isAgg t).run P w = .ok false w) (hx : ev E x = some (.pointer (some ⟨(g k).1, q, none⟩))) (hi : H[i]? = some (fam (dI ws g))) (hk : ws[k]? = some wd) (hn : wd.news ≠ []) (hv : ([(g k).2, .int .i64 (wd.mark : Int)] : List Value)[q]? = some u) :
    Val P Γ E H ⟨dst, .load t x, ty, pos, after, gd⟩ u := fun a w ha hw => by
  have h := (fam_dbt (hw.all _ (List.mem_of_getElem? hi)) hk hn).1
  have := run_loadAt_cell (P := P) hA ((h.cell q).trans hv)
  simp [execOp, ha.eval hx, Sem.run_bind, this]
theorem Val.lenDbt {t el : Nat} (hi : H[i]? = some (fam (dI ws g))) (hk : ws[k]? = some wd) (hn : wd.news ≠ []) (hu : P.underlying t = some (.slice el)) (hx : ev E x = some (g k).2) :
    Val P Γ E H ⟨dst, .call { callee := .builtin .len, args := #[x], argTypes := #[t] }, ty, pos, after, gd⟩ (.int .i64 (wd.news.length : Int)) := fun a w ha hw => by
  have h := (fam_dbt (hw.all _ (List.mem_of_getElem? hi)) hk hn).2
  rcases h with ⟨h1, h2⟩ | ⟨b, o, c, cur, h1, _⟩
  · have := congrArg List.length h2; simp at this; exact absurd this hn
  · rw [h1, List.length_map] at hx
    exact Val.len (bt := #[]) hu hx a w ha hw
theorem At.dbtSome (i : Nat) (hi : H[i]? = some (fam (dI ws g))) (hk : ws[k]? = some wd) (hn : wd.news ≠ []) (c : ∀ b o c, (g k).2 = .slice (some ⟨b, o, none⟩) wd.news.length c → At Γ E H φ) : At Γ E H φ := fun a w ha hw => by
  have h := (fam_dbt (hw.all _ (List.mem_of_getElem? hi)) hk hn).2
  rcases h with ⟨h1, h2⟩ | ⟨b, o, c', cur, h1, _⟩
  · have := congrArg List.length h2; simp at this; exact absurd this hn
  · rw [List.length_map] at h1; exact c b o c' h1 a w ha hw
theorem Val.loadNews {t b o n c j q : Nat} {z' : BitVec 64} (hA : ∀ w, (isAgg t).run P w = .ok false w) (hx : ev E x = some (.pointer (some ⟨b, q, none⟩))) (hi : H[i]? = some (fam (dI ws g))) (hk : ws[k]? = some wd) (hn : wd.news ≠ []) (hg : (g k).2 = .slice (some ⟨b, o, none⟩) n c) (hq : o + j = q) (hv : wd.news[j]? = some z') :
    Val P Γ E H ⟨dst, .load t x, ty, pos, after, gd⟩ (b64 z') := fun a w ha hw => by
  subst hq
  have h := (fam_dbt (hw.all _ (List.mem_of_getElem? hi)) hk hn).2
  rw [hg] at h
  have := run_loadAt_cell (P := P) hA (h.at (u := b64 z') (by rw [List.getElem?_map, hv]; rfl))
  simp [execOp, ha.eval hx, Sem.run_bind, this]
theorem At.focusD (i : Nat) (hi : H[i]? = some (fam (dI ws g))) (hk : ws[k]? = some wd) (hn : wd.news ≠ []) (c : At Γ E (blk (g k).1 tDb [(g k).2, .int .i64 (wd.mark : Int)] :: winR (g k).2 tW (wd.news.map b64) :: fam (upd (dI ws g) k none) :: H.eraseIdx i) φ) : At Γ E H φ := fun a w ha hw =>
  c a w ha ((hw.perm (erase_perm H i _ hi)).focus (dI_some hk hn)).openS
theorem At.unfocusD {b : Nat} {v' : Value} (hk : k < ws.length) (hn : wd.news ≠ []) (c : At Γ E (fam (dI (ws.set k wd) (upd g k (b, v'))) :: H) φ) : At Γ E (blk b tDb [v', .int .i64 (wd.mark : Int)] :: winR v' tW (wd.news.map b64) :: fam (upd (dI ws g) k none) :: H) φ := fun a w ha hw => by
  have h1 : Rep Γ.w0 Γ.S (dR (b, v') wd :: fam (upd (dI ws g) k none) :: H) w := Rep.shutS (L := [blk b tDb [v', .int .i64 (wd.mark : Int)], winR v' tW (wd.news.map b64)]) hw
  have h2 := h1.unfocus (upd_at ..)
  rw [fam_unf hk hn] at h2
  exact c a w ha h2
/-- .. of a doubt that is new. -/
theorem At.bornD {b : Nat} {v' : Value} {wo : Wd} (hk : ws[k]? = some wo) (ho : wo.news = []) (hn : wd.news ≠ []) (c : At Γ E (fam (dI (ws.set k wd) (upd g k (b, v'))) :: H) φ) : At Γ E (blk b tDb [v', .int .i64 (wd.mark : Int)] :: winR v' tW (wd.news.map b64) :: fam (dI ws g) :: H) φ := by
  have e : upd (dI ws g) k none = dI ws g := by
    funext j; unfold upd; split
    · rename_i e; rw [e, dI_none hk ho]
    · rfl
  have := At.unfocusD (Γ := Γ) (E := E) (H := H) (φ := φ) (g := g) (b := b) (v' := v') (wd := wd) (List.getElem?_eq_some_iff.1 hk).1 hn c
  rwa [e] at this
theorem At.dropD {r1 r2 : Res} (hk : k < ws.length) (hn : wd.news = []) (c : At Γ E (fam (dI (ws.set k wd) g) :: H) φ) : At Γ E (r1 :: r2 :: fam (upd (dI ws g) k none) :: H) φ := fun a w ha hw => by
  rw [fam_drop hk hn] at hw
  exact c a w ha (hw.drop ((List.Sublist.refl _).cons _ |>.cons _))
theorem At.rot3 {a b c f : Res} (h : At Γ E (a :: b :: c :: f :: F) φ) : At Γ E (f :: a :: b :: c :: F) φ := fun q w ha hw => h q w ha (hw.perm (List.perm_middle (l₁ := [a, b, c])).symm)
/-! ### calls that keep a resource, that change a device -/
theorem set_same {α : Type} {H : List α} {i : Nat} {r : α} (hi : H[i]? = some r) : H.set i r = H := by
  apply List.ext_getElem?
  intro q
  rw [List.getElem?_set]
  split
  · rename_i e; subst e
    split
    · rw [hi]
    · rename_i hn; rw [List.getElem?_eq_none (by omega)]
  · rfl
theorem Rep.kept {r : Res} (hi : H[i]? = some r) (h : Rep w0 S H w) (h' : Rep w (feet [r]) [r] w') : Rep w0 S H w' := by
  have := Rep.frame1 (X := []) hi h h'
  rwa [set_same hi] at this
theorem At.callK (i : Nat) {r : Res} {f : FuncId} {l : List Operand} {vs : List Value} {at_ : Array TypeId} (hi : H[i]? = some r) (h : ∀ w, Rep Γ.w0 Γ.S H w → r.holds w → Upd P f vs r v r w) (hc : ∀ args w, (callFunc f args).run P w = .ok (.enter f args) w) (hv : evs E l = some vs) (hn : Nat.blt d Γ.n = true)
    (c : At Γ ((d, v) :: E) H (wpList P ops Q rest)) :
    At Γ E H (wpList P ops Q ({ dst := some d, op := .call { callee := .value (.func f), args := l.toArray, argTypes := at_ }, type := ty, pos, after, guard := none } :: rest)) :=
  At.call hc hv hn fun w hw => (h w hw (hw.all _ (List.mem_of_getElem? hi))).mono fun e w' ⟨he, hr⟩ => ⟨v, _, he, hw.kept hi hr, c⟩
theorem QAt.callK (i : Nat) {r : Res} {f : FuncId} {l : List Operand} {vs : List Value} {at_ : Array TypeId} (hi : H[i]? = some r) (h : ∀ w, Rep Γ.w0 Γ.S H w → r.holds w → Upd P f vs r v r w) (hc : ∀ args w, (callFunc f args).run P w = .ok (.enter f args) w) (hv : evs E l = some vs) (hn : Nat.blt d Γ.n = true)
    (c : QAt P Γ ops ((d, v) :: E) H rest ψ) : QAt P Γ ops E H ({ dst := some d, op := .call { callee := .value (.func f), args := l.toArray, argTypes := at_ }, type := ty, pos, after, guard := none } :: rest) ψ := fun a ha => by
  unfold wpQuiet
  rw [if_pos (by simp [Region.wanted])]
  refine ⟨v, fun w hw => ?_, c _ (ha.put d v hn)⟩
  unfold Oper.quietAt
  rw [run_call ha hc hv w]
  exact ⟨rfl, (h w hw (hw.all _ (List.mem_of_getElem? hi))).mono fun e w' ⟨he, hm⟩ => ⟨he, hw.kept hi hm⟩⟩
/-- .. with the star open, at the front. -/
theorem Rep.keptS (h : Rep w0 S (L ++ F) w) (h' : Rep w (feet [star L]) [star L] w') : Rep w0 S (L ++ F) w' := (Rep.kept (H := star L :: F) (i := 0) rfl h.shutS h').openS
theorem At.callKS (L : List Res) {F : List Res} {f : FuncId} {l : List Operand} {vs : List Value} {at_ : Array TypeId} (hL : H = L ++ F) (h : ∀ w, Rep Γ.w0 Γ.S H w → (star L).holds w → Upd P f vs (star L) v (star L) w) (hc : ∀ args w, (callFunc f args).run P w = .ok (.enter f args) w) (hv : evs E l = some vs) (hn : Nat.blt d Γ.n = true)
    (c : At Γ ((d, v) :: E) H (wpList P ops Q rest)) :
    At Γ E H (wpList P ops Q ({ dst := some d, op := .call { callee := .value (.func f), args := l.toArray, argTypes := at_ }, type := ty, pos, after, guard := none } :: rest)) := by
  subst hL
  exact At.call hc hv hn fun w hw => (h w hw (hw.shutS.all _ (List.mem_cons_self ..))).mono fun e w' ⟨he, hr⟩ => ⟨v, _, he, hw.keptS hr, c⟩
theorem QAt.callKS (L : List Res) {F : List Res} {f : FuncId} {l : List Operand} {vs : List Value} {at_ : Array TypeId} (hL : H = L ++ F) (h : ∀ w, Rep Γ.w0 Γ.S H w → (star L).holds w → Upd P f vs (star L) v (star L) w) (hc : ∀ args w, (callFunc f args).run P w = .ok (.enter f args) w) (hv : evs E l = some vs) (hn : Nat.blt d Γ.n = true)
    (c : QAt P Γ ops ((d, v) :: E) H rest ψ) : QAt P Γ ops E H ({ dst := some d, op := .call { callee := .value (.func f), args := l.toArray, argTypes := at_ }, type := ty, pos, after, guard := none } :: rest) ψ := by
  subst hL
  intro a ha
  unfold wpQuiet
  rw [if_pos (by simp [Region.wanted])]
  refine ⟨v, fun w hw => ?_, c _ (ha.put d v hn)⟩
  unfold Oper.quietAt
  rw [run_call ha hc hv w]
  exact ⟨rfl, (h w hw (hw.shutS.all _ (List.mem_cons_self ..))).mono fun e w' ⟨he, hm⟩ => ⟨he, hw.keptS hm⟩⟩
/-- A call that changes a device. -/
def DevU (P : Program) (f : FuncId) (vs : List Value) (p : Nat) (γ : Gh) (σ : Ds) (v : Value) (σ' : Ds) (w : World) : Prop := Calls P f vs.toArray w fun e w' => ∃ γ', e = .returned v ∧ Rep w (feet [Dev p γ σ]) [Dev p γ' σ'] w'
theorem At.callD (i : Nat) {f : FuncId} {l : List Operand} {vs : List Value} {at_ : Array TypeId} (hi : H[i]? = some (Dev p γ σ)) (h : ∀ w, Rep Γ.w0 Γ.S H w → (Dev p γ σ).holds w → DevU P f vs p γ σ v σ' w) (hc : ∀ args w, (callFunc f args).run P w = .ok (.enter f args) w) (hv : evs E l = some vs) (hn : Nat.blt d Γ.n = true)
    (c : ∀ γ', At Γ ((d, v) :: E) (H.set i (Dev p γ' σ')) (wpList P ops Q rest)) :
    At Γ E H (wpList P ops Q ({ dst := some d, op := .call { callee := .value (.func f), args := l.toArray, argTypes := at_ }, type := ty, pos, after, guard := none } :: rest)) :=
  At.call hc hv hn fun w hw => (h w hw (hw.all _ (List.mem_of_getElem? hi))).mono fun e w' ⟨γ', he, hr⟩ => ⟨v, _, he, Rep.frame1 (X := []) hi hw hr, c γ'⟩
/-- A call that makes a device, or none. -/
def NewDev (P : Program) (f : FuncId) (vs : List Value) (σ : Ds) (w : World) : Prop := Calls P f vs.toArray w fun e w' => ∃ p γ, e = .returned (.tuple #[.pointer (some ⟨p, 0, none⟩), .int .i64 0]) ∧ Rep w (feet []) [Dev p γ σ] w'
theorem At.callND {f : FuncId} {l : List Operand} {vs : List Value} {at_ : Array TypeId} (h : ∀ w, Rep Γ.w0 Γ.S H w → NewDev P f vs σ w) (hc : ∀ args w, (callFunc f args).run P w = .ok (.enter f args) w) (hv : evs E l = some vs) (hn : Nat.blt d Γ.n = true)
    (c : ∀ p γ, At Γ ((d, .tuple #[.pointer (some ⟨p, 0, none⟩), .int .i64 0]) :: E) (Dev p γ σ :: H) (wpList P ops Q rest)) :
    At Γ E H (wpList P ops Q ({ dst := some d, op := .call { callee := .value (.func f), args := l.toArray, argTypes := at_ }, type := ty, pos, after, guard := none } :: rest)) :=
  At.call hc hv hn fun w hw => (h w hw).mono fun e w' ⟨p, γ, he, hr⟩ => ⟨_, _, he, by
    have := Rep.frame (H0 := []) (F := H) (by simpa using hw) hr
    simpa using this, c p γ⟩
/-- A call that reads one resource and makes a row. -/
def RowK (P : Program) (f : FuncId) (vs : List Value) (r : Res) (e sz n : Nat) (xs : List Value) (w : World) : Prop := Calls P f vs.toArray w fun q w' => ∃ v', q = .returned v' ∧ Rep w (feet [r]) [rowR v' e sz n xs, r] w'
theorem At.callRK (i : Nat) {r : Res} {e sz n : Nat} {xs : List Value} {f : FuncId} {l : List Operand} {vs : List Value} {at_ : Array TypeId} (hi : H[i]? = some r) (h : ∀ w, Rep Γ.w0 Γ.S H w → r.holds w → RowK P f vs r e sz n xs w) (hc : ∀ args w, (callFunc f args).run P w = .ok (.enter f args) w) (hv : evs E l = some vs) (hn : Nat.blt d Γ.n = true)
    (c : ∀ v', At Γ ((d, v') :: E) (rowR v' e sz n xs :: H) (wpList P ops Q rest)) :
    At Γ E H (wpList P ops Q ({ dst := some d, op := .call { callee := .value (.func f), args := l.toArray, argTypes := at_ }, type := ty, pos, after, guard := none } :: rest)) :=
  At.call hc hv hn fun w hw => (h w hw (hw.all _ (List.mem_of_getElem? hi))).mono fun q w' ⟨v', he, hr⟩ => ⟨v', _, he, by
    have h1 : Rep Γ.w0 Γ.S ([r] ++ H.eraseIdx i) w := hw.perm (erase_perm H i r hi)
    exact (h1.frame (H0' := [rowR v' e sz n xs, r]) hr).perm ((erase_perm H i r hi).symm.cons _), c v'⟩
/-- .. with the star open, at the front. -/
theorem At.callRKS (L : List Res) {F : List Res} {e sz n : Nat} {xs : List Value} {f : FuncId} {l : List Operand} {vs : List Value} {at_ : Array TypeId} (hL : H = L ++ F) (h : ∀ w, Rep Γ.w0 Γ.S H w → (star L).holds w → RowK P f vs (star L) e sz n xs w) (hc : ∀ args w, (callFunc f args).run P w = .ok (.enter f args) w) (hv : evs E l = some vs) (hn : Nat.blt d Γ.n = true)
    (c : ∀ v', At Γ ((d, v') :: E) (rowR v' e sz n xs :: H) (wpList P ops Q rest)) :
    At Γ E H (wpList P ops Q ({ dst := some d, op := .call { callee := .value (.func f), args := l.toArray, argTypes := at_ }, type := ty, pos, after, guard := none } :: rest)) := by
  subst hL
  exact At.call hc hv hn fun w hw => (h w hw (hw.shutS.all _ (List.mem_cons_self ..))).mono fun q w' ⟨v', he, hr⟩ => ⟨v', _, he, by
    have h1 : Rep Γ.w0 Γ.S ([star L] ++ F) w := hw.shutS
    have h2 : Rep Γ.w0 Γ.S (rowR v' e sz n xs :: star L :: F) w' := h1.frame (H0' := [rowR v' e sz n xs, star L]) hr
    have h3 : Rep Γ.w0 Γ.S (star L :: rowR v' e sz n xs :: F) w' := h2.perm (List.Perm.swap ..)
    exact h3.openS.perm List.perm_middle, c v'⟩
theorem retRK {p : Nat} {γ : Gh} {σ : Ds} {r : Res} {F : List Res} (hw : Rep w S (r :: devL p γ σ ++ F) w') : Rep w S [r, Dev p γ σ] w' := by
  have h1 : Rep w S (devL p γ σ ++ (r :: F)) w' := hw.perm (List.perm_middle (l₁ := devL p γ σ)).symm
  exact ((h1.shutS).perm (List.Perm.swap ..)).drop ((List.nil_sublist F).cons_cons _ |>.cons_cons _)
theorem enterV {f : FuncId} {fn : Func} {c : Code} {vs : List Value} {w : World} {R : Ending → World → Prop} {n : Nat} (hd : (Dev p γ σ).holds w) (hf : P.funcs[f]? = some fn) (hb : fn.body = some c) (hn : fn.ntmps = n) (hl : Nat.ble vs.length n = true)
    (k : At ⟨w, feet [Dev p γ σ], n, []⟩ (envOf 0 vs) (devL p γ σ) (c.wp P (bodyPost P fn R))) : Calls P f vs.toArray w R := enter (feet [Dev p γ σ]) (devL p γ σ) hf hb hn hl (Rep.of_star (r := Dev p γ σ) hd) k
theorem enterVc {f : FuncId} {fn : Func} {c : Code} {vs : List Value} {w : World} {R : Ending → World → Prop} {n : Nat} (hd : (Dev p γ σ).holds w) (hf : P.funcs[f]? = some fn) (hb : fn.body = some c) (hn : fn.ntmps = n) (hl : Nat.ble vs.length n = true)
    (k : At ⟨w, feet [Dev p γ σ], n, []⟩ (envOf 0 vs) [Dev p γ σ] (c.wp P (bodyPost P fn R))) : Calls P f vs.toArray w R := enter (feet [Dev p γ σ]) [Dev p γ σ] hf hb hn hl (Rep.one hd) k
theorem retK {F : List Res} (hw : Rep w S (devL p γ σ ++ F) w') : Rep w S [Dev p γ σ] w' := (hw.shutS).drop ((List.nil_sublist F).cons_cons _)
/-- An open device whose parts are known is a device again. -/
theorem toDev {F : List Res} {a b c e : Res} (hg : Dgood σ) (hw : Rep w S (a :: b :: c :: e :: F) w') (ha : a = blk p tDv [γ.vo, .map (some γ.mb), .int .i64 (σ.steps : Int), .bool σ.armed, .int .i64 (σ.left : Int)]) (hb : b = wrow tW γ.vo (olds σ.ws)) (hc : c = mapR γ.mb (mk σ.ws γ.g)) (he : e = fam (dI σ.ws γ.g)) : Rep w S (Dev p γ σ :: F) w' := by
  subst ha hb hc he
  have h1 : Rep w S (factR (Dgood σ) :: _) w' := Rep.fact hg hw
  have h2 : Rep w S (devL p γ σ ++ F) w' := h1.perm (List.perm_middle (l₁ := [_, _, _, _]) (a := factR (Dgood σ)) (l₂ := F)).symm
  exact h2.shutS
end
end Go.Wk
set_option linter.unusedVariables false
set_option linter.unusedSimpArgs false
namespace Go.Wk
open Go
section
variable {P : Program} {Γ : Ctx} {E E' : Env} {H : List Res} {ops : Array Oper} {Q : Exit → Act → World → Prop} {rest : List Oper}
  {d : Nat} {ty : TypeId} {pos : String} {after : Array Edge} {x y : Operand} {v u : Value}
theorem putAt_whole {xs ys : List Value} (h : ys.length = xs.length) : putAt xs 0 ys = ys := by
  unfold putAt
  rw [List.take_zero, List.nil_append, Nat.zero_add, h, List.drop_length, List.append_nil]
/-- A row is written over with as many elements of another list. -/
theorem At.copyWhole {i dT sT e e' sz N : Nat} {xs ys : List Value} (ht : P.underlying dT = some (.slice e)) (hz : ∀ w, (sizeOf e).run P w = .ok sz w)
    (hx : ev E x = some v) (hy : ev E y = some u) (hi : H[i]? = some (rowR v e' sz N xs)) (hsz : 0 < sz) (hsrc : ∀ w, Rep Γ.w0 Γ.S H w → Rd w u sz N ys) (h1 : ∀ u ∈ ys, u.oneCell' = true) (hn : Nat.blt d Γ.n = true)
    (k : At Γ ((d, .int .i64 N) :: E) (H.set i (rowR v e' sz N ys)) (wpList P ops Q rest)) :
    At Γ E H (wpList P ops Q ({ dst := some d, op := .call { callee := .builtin .copy, args := #[x, y], argTypes := #[dT, sT] }, type := ty, pos, after, guard := none } :: rest)) :=
  At.run rfl rfl hn fun a w ha hw => by
    have hd := hw.row hi
    have hxl : xs.length = N * sz := hd.1
    obtain ⟨A, c, rfl, hc, hyl, hle, hnil, _⟩ := hsrc w hw
    rcases Nat.eq_zero_or_pos N with h0 | h0
    · subst h0
      have hx0 : xs = [] := List.eq_nil_of_length_eq_zero (by rw [hxl, Nat.zero_mul])
      have hy0 : ys = [] := List.eq_nil_of_length_eq_zero (by rw [hyl, Nat.zero_mul])
      subst hx0 hy0
      rw [set_same hi] at k
      refine ⟨.int .i64 (0 : Nat), w, _, ?_, hw, k⟩
      have hld : (Builtin.firstCells sz 0 (.slice A 0 c)).run P w = .ok #[] w := by
        cases A with
        | none => rfl
        | some a =>
          show (loadCells a (0 * sz)).run P w = _
          have := run_loadCells_list (P := P) w a [] (fun j u hu => by cases hu)
          rw [Nat.zero_mul]; exact this
      have h0 : (Builtin.copy_ #[dT, sT] ty #[v, .slice A 0 c]).run P w = .ok (goInt 0) w := by
        rcases hd.2 with ⟨rfl, _⟩ | ⟨b, cap, cur, rfl, _⟩
        · simp [Builtin.copy_, run_underlying ht, Builtin.lenOf, hz, hld]
        · simp [Builtin.copy_, run_underlying ht, Builtin.lenOf, hz, hld, storeCells]
      simp [execOp, resolve, invoke, builtin, ha.eval hx, ha.eval hy, Sem.run_bind, h0, goInt]
    · have hp : 0 < ys.length := by rw [hyl]; exact Nat.mul_pos h0 hsz
      obtain ⟨b', o', rfl, hcc⟩ := hc 0 (ys[0]'hp) (List.getElem?_eq_getElem hp)
      rcases hd.2 with ⟨_, h⟩ | ⟨b, cap, cur, rfl, _⟩
      · omega
      obtain ⟨w', hr, hw'⟩ := storeCells_row (P := P) ys 0 0 xs H w hw hi (by omega) h1
      rw [Nat.add_zero, putAt_whole (by rw [hyl, hxl])] at hw'
      have hld := run_loadCells_list (P := P) w ⟨b', o', none⟩ ys (fun j u hu => by
        obtain ⟨b2, o2, e2, h2⟩ := hc j u hu
        simp only [Option.some.injEq, Addr.mk.injEq] at e2
        obtain ⟨rfl, rfl, _⟩ := e2
        rw [Addr.add_off]; exact h2)
      refine ⟨.int .i64 N, w', _, ?_, hw', k⟩
      rw [hyl] at hld
      have hr' : (storeCells ⟨b, 0, none⟩ ys 0).run P w = .ok () w' := hr
      have h0 : (Builtin.copy_ #[dT, sT] ty #[.slice (some ⟨b, 0, none⟩) N cap, .slice (some ⟨b', o', none⟩) N c]).run P w = .ok (goInt N) w' := by
        have hm : Nat.min N N = N := Nat.min_self N
        have hm' : min N N = N := Nat.min_self N
        simp [Builtin.copy_, run_underlying ht, Builtin.lenOf, Builtin.firstCells, hz, hm, hm', hld, hr']
      simp [execOp, resolve, invoke, builtin, ha.eval hx, ha.eval hy, Sem.run_bind, h0, goInt]
end
theorem Tab.modS {w w' : World} {S : Nat → Prop} (h : Tab w) (hm : Mod S w w') (h0 : ¬ S 0) : Tab w' := fun i hi => by
  have hc := h i hi
  have := hm.old 0 (block_lt_of_cell hc) h0
  unfold World.cell? at *
  rw [this]; exact hc
theorem Tab.old {w : World} (h : Tab w) : 0 < w.heap.size := block_lt_of_cell (h 0 (by decide))
end Go.Wk
set_option linter.unusedVariables false
set_option linter.unusedSimpArgs false
namespace Go.Wk
open Go
/-- The word of eight bytes from a place on. -/
def wdA (l : List UInt8) (a : Nat) : BitVec 64 := BitVec.ofNat 64 (num l a 8)
theorem num_lt64 (l : List UInt8) (a : Nat) : num l a 8 < 18446744073709551616 := num_lt a 8
theorem wdA_nat (l : List UInt8) (a : Nat) : (wdA l a).toNat = num l a 8 := by
  unfold wdA; rw [BitVec.toNat_ofNat, Nat.mod_eq_of_lt (num_lt64 l a)]
theorem wdA_val (l : List UInt8) (a : Nat) : Value.int .u64 ((num l a 8 : Nat) : Int) = b64 (wdA l a) := by unfold b64; rw [wdA_nat]
theorem or_low {V c : Nat} (hV : V < 72057594037927936) (hc : c < 256) : ib .or .u64 (IntKind.u64.wrap ((V : Int) * 2 ^ min (8 : Int).toNat IntKind.u64.bits)) (c : Int) = ((V * 256 + c : Nat) : Int) := by
  have e1 : IntKind.u64.wrap ((V : Int) * 2 ^ min (8 : Int).toNat IntKind.u64.bits) = ((V * 256 : Nat) : Int) := by
    rw [show ((V : Int) * 2 ^ min (8 : Int).toNat IntKind.u64.bits) = ((V * 256 : Nat) : Int) by rw [show min (8 : Int).toNat IntKind.u64.bits = 8 from rfl]; omega]
    exact wrap_u64 (by omega) (by omega)
  rw [e1]
  show IntKind.u64.wrap ((BitVec.ofInt 64 ((V * 256 : Nat) : Int) ||| BitVec.ofInt 64 (c : Int)).toNat : Int) = _
  have t : ∀ n : Nat, n < 18446744073709551616 → (BitVec.ofInt 64 (n : Int)).toNat = n := fun n hn => by
    rw [BitVec.toNat_ofInt, show ((n : Int) % ((2 ^ 64 : Nat) : Int)) = n from Int.emod_eq_of_lt (by omega) (by omega)]; omega
  rw [BitVec.toNat_or, t _ (by omega), t _ (by omega)]
  have : V * 256 ||| c = V * 256 + c := by
    have := Nat.two_pow_add_eq_or_of_lt (i := 8) (show c < 2 ^ 8 by omega) V
    rw [show 2 ^ 8 * V = V * 256 from by omega] at this
    exact this.symm
  rw [this]
  exact wrap_u64 (by omega) (by omega)
theorem shr_byte (x : BitVec 64) {i : Nat} (h : i < 8) : (x.toNat : Int).fdiv (2 ^ min (8 * (i : Int)).toNat IntKind.u64.bits) = ((x.toNat / 256 ^ i : Nat) : Int) := by
  have e : min (8 * (i : Int)).toNat IntKind.u64.bits = 8 * i := by rw [show IntKind.u64.bits = 64 from rfl]; omega
  rw [e, show (256 : Nat) ^ i = 2 ^ (8 * i) from by rw [Nat.pow_mul]]
  rw [Int.fdiv_eq_ediv_of_nonneg _ (Int.pow_nonneg (by decide))]
  norm_cast
abbrev le8 (x : BitVec 64) : List UInt8 := le 8 x.toNat
theorem num_le8 (x : BitVec 64) : BitVec.ofNat 64 (fromLe (le8 x)) = x := by
  apply BitVec.eq_of_toNat_eq
  have h := le_fromLe (le8 x)
  rw [le_length] at h
  rw [BitVec.toNat_ofNat]
  have key : ∀ (n a b : Nat), a < 256 ^ n → b < 256 ^ n → le n a = le n b → a = b := by
    intro n
    induction n with
    | zero => intro a b ha hb _; simp at ha hb; omega
    | succ n ih =>
      intro a b ha hb he
      simp only [le, List.cons.injEq] at he
      have h1 : a % 256 = b % 256 := by
        have := congrArg UInt8.toNat he.1
        simpa using this
      have h2 := ih (a / 256) (b / 256) (by rw [Nat.pow_succ] at ha; omega) (by rw [Nat.pow_succ] at hb; omega) he.2
      omega
  have hlt : fromLe (le8 x) < 256 ^ 8 := by
    have := num_lt (l := le8 x) 0 8
    unfold num at this
    rwa [List.drop_zero, List.take_of_length_le (by rw [le_length]; exact Nat.le_refl _)] at this
  rw [Nat.mod_eq_of_lt (by simpa using hlt)]
  exact key 8 _ _ hlt (by have := x.isLt; omega) h
end Go.Wk
set_option linter.unusedVariables false
set_option linter.unusedSimpArgs false
namespace Go.Proofs.YtpihenmdkoojdaaDoor
open Go Go.Wk
def isSizeB (n : Int) : Bool := decide (512 ≤ n ∧ n ≤ 524288 ∧ n % 512 = 0)
def hasB (σ : Ds) (a n : Int) : Bool := decide (0 ≤ a ∧ 0 ≤ n ∧ a ≤ 8 * (σ.ws.length : Int) ∧ n ≤ 8 * (σ.ws.length : Int) - a)
def placeE (σ : Ds) (a : Int) : Int := if 0 ≤ a ∧ a < 8 * (σ.ws.length : Int) then (if a % 8 = 0 then 0 else 12) else 11
def deadB (σ : Ds) : Bool := σ.armed && decide (σ.left = 0)
def stepD (σ : Ds) : Ds := { σ with steps := σ.steps + 1, left := if σ.armed then σ.left - 1 else σ.left }
def nowW (w : Wd) : BitVec 64 := w.news.getLast?.getD w.old
def zWd : Wd := ⟨0, [], 0⟩
def wz (n : Nat) : List Wd := List.replicate n zWd
def zeroD (n : Nat) : Ds := ⟨wz n, 0, false, 0⟩
theorem dgood_step {σ : Ds} (h : Dgood σ) (hs : σ.steps + 1 ≤ 10000000000000) : Dgood (stepD σ) :=
  ⟨h.pos, h.len, h.lines, hs, by have := h.left; unfold stepD; simp only; split <;> omega, fun w hw => ⟨(h.word w hw).1, by have := (h.word w hw).2; show _ ≤ σ.steps + 1; omega⟩⟩
theorem isSize_p (n : Int) (w : World) :
    PureC Tryd.prog 43 [.int .i64 n] (.bool (isSizeB n)) w := by
 refine enter0 Tryd.func43 rfl Tryd.ntmps43 rfl ?_
 simp only [envOf]
 refine tR ?_
 refine tA rfl rfl ?_
 refine tE ?_
 refine tR ?_
 refine tM rfl rfl ?_
 refine At.weaken [(0, _), (2, _), (3, _)] (Sub.cons rfl (Sub.cons rfl (Sub.cons rfl Sub.nil))) ?_
 refine At.boolMeet 10 13 (isSizeB n) ?_ ?_
 ·skip
  simp only [List.take_succ_cons, List.take_zero]
  refine At.val (Val.bin rfl rfl rfl) rfl rfl rfl ?_
  refine tM rfl rfl ?_
  refine At.split (t := 5) rfl (fun h1 => ?_) (fun h1 => ?_)
  ·skip
   try simp only [hasB, isSizeB, Bool.not_eq_true', Bool.not_eq_false', bne_iff_ne, ne_eq, bne_eq_false_iff_eq, beq_iff_eq, beq_eq_false_iff_ne, decide_eq_true_eq, decide_eq_false_iff_not, gt_iff_lt, ge_iff_le] at h1
   refine At.yes rfl rfl ?_
   refine tM rfl rfl ?_
   refine At.yes rfl rfl ?_
   refine At.val (Val.bin rfl rfl rfl) rfl rfl rfl ?_
   refine At.val (Val.pickT rfl rfl) rfl rfl rfl ?_
   refine tM rfl rfl ?_
   refine At.split (t := 9) rfl (fun h2 => ?_) (fun h2 => ?_)
   ·skip
    try simp only [hasB, isSizeB, Bool.not_eq_true', Bool.not_eq_false', bne_iff_ne, ne_eq, bne_eq_false_iff_eq, beq_iff_eq, beq_eq_false_iff_ne, decide_eq_true_eq, decide_eq_false_iff_not, gt_iff_lt, ge_iff_le] at h2
    refine At.yes rfl rfl ?_
    refine tM rfl rfl ?_
    refine At.yes rfl rfl ?_
    first | refine At.val (Val.remI rfl rfl (by omega) (by decide)) rfl rfl rfl ?_ | refine At.val (Val.rem rfl rfl (by decide)) rfl rfl rfl ?_
    refine At.yes rfl rfl ?_
    refine At.val (Val.bin rfl rfl rfl) rfl rfl rfl ?_
    refine At.val (Val.pickT rfl rfl) rfl rfl rfl ?_
    refine At.nil ?_
    exact At.boolEnd rfl (by unfold isSizeB; exact (by first | exact (decide_eq_true (by omega)).symm | exact (decide_eq_false (by omega)).symm | (apply Bool.eq_iff_iff.2; simp only [decide_eq_true_eq, beq_iff_eq, bne_iff_ne, ne_eq, Bool.not_eq_true', decide_eq_false_iff_not]; omega) | rfl | (simp_all; done) | (simp_all; omega))) (by repeat (first | exact Sub.nil | refine Sub.cons rfl ?_))
   ·skip
    try simp only [hasB, isSizeB, Bool.not_eq_true', Bool.not_eq_false', bne_iff_ne, ne_eq, bne_eq_false_iff_eq, beq_iff_eq, beq_eq_false_iff_ne, decide_eq_true_eq, decide_eq_false_iff_not, gt_iff_lt, ge_iff_le] at h2
    refine At.no rfl rfl rfl rfl ?_
    refine At.no rfl rfl rfl rfl ?_
    refine At.no rfl rfl rfl rfl ?_
    refine At.val (Val.pickF rfl rfl) rfl rfl rfl ?_
    refine At.nil ?_
    exact At.boolEnd rfl (by unfold isSizeB; exact (by first | exact (decide_eq_true (by omega)).symm | exact (decide_eq_false (by omega)).symm | (apply Bool.eq_iff_iff.2; simp only [decide_eq_true_eq, beq_iff_eq, bne_iff_ne, ne_eq, Bool.not_eq_true', decide_eq_false_iff_not]; omega) | rfl | (simp_all; done) | (simp_all; omega))) (by repeat (first | exact Sub.nil | refine Sub.cons rfl ?_))
  ·skip
   try simp only [hasB, isSizeB, Bool.not_eq_true', Bool.not_eq_false', bne_iff_ne, ne_eq, bne_eq_false_iff_eq, beq_iff_eq, beq_eq_false_iff_ne, decide_eq_true_eq, decide_eq_false_iff_not, gt_iff_lt, ge_iff_le] at h1
   refine At.no rfl rfl rfl rfl ?_
   refine At.no rfl rfl rfl rfl ?_
   refine At.val (Val.pickF rfl rfl) rfl rfl rfl ?_
   refine tM rfl rfl ?_
   refine At.no rfl rfl rfl rfl ?_
   refine At.no rfl rfl rfl rfl ?_
   refine At.no rfl rfl rfl rfl ?_
   refine At.val (Val.pickF rfl rfl) rfl rfl rfl ?_
   refine At.nil ?_
   exact At.boolEnd rfl (by unfold isSizeB; exact (by first | exact (decide_eq_true (by omega)).symm | exact (decide_eq_false (by omega)).symm | (apply Bool.eq_iff_iff.2; simp only [decide_eq_true_eq, beq_iff_eq, bne_iff_ne, ne_eq, Bool.not_eq_true', decide_eq_false_iff_not]; omega) | rfl | (simp_all; done) | (simp_all; omega))) (by repeat (first | exact Sub.nil | refine Sub.cons rfl ?_))
 ·skip
  simp only [List.drop_succ_cons, List.drop_zero]
  refine tA rfl rfl ?_
  refine tE ?_
  refine At.retC ?_
  refine At.ret1 (.inl rfl) rfl rfl rfl (fun w hw => ?_)
  exact ⟨rfl, hw.mod⟩
theorem size_k (p : Nat) (γ : Gh) (σ : Ds) (w : World) (hd : (Dev p γ σ).holds w) :
    Upd Tryd.prog 31 [.pointer (some ⟨p, 0, none⟩)] (Dev p γ σ) (.int .i64 (8 * (σ.ws.length : Int))) (Dev p γ σ) w := by
 refine enterV hd Tryd.func31 rfl Tryd.ntmps31 rfl ?_
 unfold devL
 have hgd := Dev.good hd
 have hln := hgd.len
 have hol := olds_length σ.ws
 simp only [envOf]
 refine tR ?_
 refine tA rfl rfl ?_
 refine tE ?_
 refine tR ?_
 refine tM rfl rfl ?_
 refine At.val (Val.nilCheck rfl) rfl rfl rfl ?_
 refine At.val (Val.field 0 rfl fo_92_0 rfl) rfl rfl rfl ?_
 refine At.val (Val.load (i := 0) Tryd.isAgg83 rfl rfl rfl) rfl rfl rfl ?_
 refine At.val (Val.lenRow (i := 1) Tryd.underlying83 rfl rfl) rfl rfl rfl ?_
 first | refine At.val (Val.mulI rfl rfl (by omega) (by omega)) rfl rfl rfl ?_ | refine At.val (Val.bin rfl rfl rfl) rfl rfl rfl ?_
 refine tA rfl rfl ?_
 refine tE ?_
 refine At.retC ?_
 refine At.ret1 (.inl rfl) rfl rfl rfl (fun w hw => ?_)
 exact ⟨congrArg (fun z => Ending.returned (Value.int .i64 z)) (by omega), retK (F := []) hw⟩
theorem has_k (p : Nat) (γ : Gh) (σ : Ds) (a n : Int) (w : World) (hd : (Dev p γ σ).holds w) :
    Upd Tryd.prog 50 [.pointer (some ⟨p, 0, none⟩), .int .i64 a, .int .i64 n] (Dev p γ σ) (.bool (hasB σ a n)) (Dev p γ σ) w := by
 refine enterVc hd Tryd.func50 rfl Tryd.ntmps50 rfl ?_
 have hgd := Dev.good hd
 have hln := hgd.len
 simp only [envOf]
 refine tR ?_
 refine tA rfl rfl ?_
 refine tE ?_
 refine tR ?_
 refine tM rfl rfl ?_
 refine At.weaken [(0, _), (1, _), (2, _), (6, _), (7, _)] (Sub.cons rfl (Sub.cons rfl (Sub.cons rfl (Sub.cons rfl (Sub.cons rfl Sub.nil))))) ?_
 refine At.boolMeet 19 26 (hasB σ a n) ?_ ?_
 ·skip
  simp only [List.take_succ_cons, List.take_zero]
  refine At.val (Val.bin rfl rfl rfl) rfl rfl rfl ?_
  refine tM rfl rfl ?_
  refine At.split (t := 9) rfl (fun h1 => ?_) (fun h1 => ?_)
  ·skip
   try simp only [hasB, isSizeB, Bool.not_eq_true', Bool.not_eq_false', bne_iff_ne, ne_eq, bne_eq_false_iff_eq, beq_iff_eq, beq_eq_false_iff_ne, decide_eq_true_eq, decide_eq_false_iff_not, gt_iff_lt, ge_iff_le] at h1
   refine At.yes rfl rfl ?_
   refine tM rfl rfl ?_
   refine At.yes rfl rfl ?_
   refine At.val (Val.bin rfl rfl rfl) rfl rfl rfl ?_
   refine At.val (Val.pickT rfl rfl) rfl rfl rfl ?_
   refine tM rfl rfl ?_
   refine At.split (t := 13) rfl (fun h2 => ?_) (fun h2 => ?_)
   ·skip
    try simp only [hasB, isSizeB, Bool.not_eq_true', Bool.not_eq_false', bne_iff_ne, ne_eq, bne_eq_false_iff_eq, beq_iff_eq, beq_eq_false_iff_ne, decide_eq_true_eq, decide_eq_false_iff_not, gt_iff_lt, ge_iff_le] at h2
    refine At.yes rfl rfl ?_
    refine tM rfl rfl ?_
    refine At.yes rfl rfl ?_
    refine tM rfl rfl ?_
    refine At.yes rfl rfl ?_
    refine At.callK 0 rfl (fun w hw hr => size_k _ _ _ w hr) Tryd.call31 rfl rfl ?_
    refine At.yes rfl rfl ?_
    refine At.val (Val.bin rfl rfl rfl) rfl rfl rfl ?_
    refine At.val (Val.pickT rfl rfl) rfl rfl rfl ?_
    refine tM rfl rfl ?_
    refine At.split (t := 19) rfl (fun h3 => ?_) (fun h3 => ?_)
    ·skip
     try simp only [hasB, isSizeB, Bool.not_eq_true', Bool.not_eq_false', bne_iff_ne, ne_eq, bne_eq_false_iff_eq, beq_iff_eq, beq_eq_false_iff_ne, decide_eq_true_eq, decide_eq_false_iff_not, gt_iff_lt, ge_iff_le] at h3
     refine At.yes rfl rfl ?_
     refine tM rfl rfl ?_
     refine At.yes rfl rfl ?_
     refine tM rfl rfl ?_
     refine At.yes rfl rfl ?_
     refine At.callK 0 rfl (fun w hw hr => size_k _ _ _ w hr) Tryd.call31 rfl rfl ?_
     refine At.yes rfl rfl ?_
     refine tM rfl rfl ?_
     refine At.yes rfl rfl ?_
     first | refine At.val (Val.subI rfl rfl (by omega) (by omega)) rfl rfl rfl ?_ | refine At.val (Val.bin rfl rfl rfl) rfl rfl rfl ?_
     refine At.yes rfl rfl ?_
     refine At.val (Val.bin rfl rfl rfl) rfl rfl rfl ?_
     refine At.val (Val.pickT rfl rfl) rfl rfl rfl ?_
     refine At.nil ?_
     exact At.boolEnd rfl (by unfold hasB; exact (by first | exact (decide_eq_true (by omega)).symm | exact (decide_eq_false (by omega)).symm | (apply Bool.eq_iff_iff.2; simp only [decide_eq_true_eq, beq_iff_eq, bne_iff_ne, ne_eq, Bool.not_eq_true', decide_eq_false_iff_not]; omega) | rfl | (simp_all; done) | (simp_all; omega))) (by repeat (first | exact Sub.nil | refine Sub.cons rfl ?_))
    ·skip
     try simp only [hasB, isSizeB, Bool.not_eq_true', Bool.not_eq_false', bne_iff_ne, ne_eq, bne_eq_false_iff_eq, beq_iff_eq, beq_eq_false_iff_ne, decide_eq_true_eq, decide_eq_false_iff_not, gt_iff_lt, ge_iff_le] at h3
     refine At.no rfl rfl rfl rfl ?_
     refine At.no rfl rfl rfl rfl ?_
     refine At.no rfl rfl rfl rfl ?_
     refine At.no rfl rfl rfl rfl ?_
     refine At.no rfl rfl rfl rfl ?_
     refine At.no rfl rfl rfl rfl ?_
     refine At.val (Val.pickF rfl rfl) rfl rfl rfl ?_
     refine At.nil ?_
     exact At.boolEnd rfl (by unfold hasB; exact (by first | exact (decide_eq_true (by omega)).symm | exact (decide_eq_false (by omega)).symm | (apply Bool.eq_iff_iff.2; simp only [decide_eq_true_eq, beq_iff_eq, bne_iff_ne, ne_eq, Bool.not_eq_true', decide_eq_false_iff_not]; omega) | rfl | (simp_all; done) | (simp_all; omega))) (by repeat (first | exact Sub.nil | refine Sub.cons rfl ?_))
   ·skip
    try simp only [hasB, isSizeB, Bool.not_eq_true', Bool.not_eq_false', bne_iff_ne, ne_eq, bne_eq_false_iff_eq, beq_iff_eq, beq_eq_false_iff_ne, decide_eq_true_eq, decide_eq_false_iff_not, gt_iff_lt, ge_iff_le] at h2
    refine At.no rfl rfl rfl rfl ?_
    refine At.no rfl rfl rfl rfl ?_
    refine At.no rfl rfl rfl rfl ?_
    refine At.no rfl rfl rfl rfl ?_
    refine At.val (Val.pickF rfl rfl) rfl rfl rfl ?_
    refine tM rfl rfl ?_
    refine At.no rfl rfl rfl rfl ?_
    refine At.no rfl rfl rfl rfl ?_
    refine At.no rfl rfl rfl rfl ?_
    refine At.no rfl rfl rfl rfl ?_
    refine At.no rfl rfl rfl rfl ?_
    refine At.no rfl rfl rfl rfl ?_
    refine At.val (Val.pickF rfl rfl) rfl rfl rfl ?_
    refine At.nil ?_
    exact At.boolEnd rfl (by unfold hasB; exact (by first | exact (decide_eq_true (by omega)).symm | exact (decide_eq_false (by omega)).symm | (apply Bool.eq_iff_iff.2; simp only [decide_eq_true_eq, beq_iff_eq, bne_iff_ne, ne_eq, Bool.not_eq_true', decide_eq_false_iff_not]; omega) | rfl | (simp_all; done) | (simp_all; omega))) (by repeat (first | exact Sub.nil | refine Sub.cons rfl ?_))
  ·skip
   try simp only [hasB, isSizeB, Bool.not_eq_true', Bool.not_eq_false', bne_iff_ne, ne_eq, bne_eq_false_iff_eq, beq_iff_eq, beq_eq_false_iff_ne, decide_eq_true_eq, decide_eq_false_iff_not, gt_iff_lt, ge_iff_le] at h1
   refine At.no rfl rfl rfl rfl ?_
   refine At.no rfl rfl rfl rfl ?_
   refine At.val (Val.pickF rfl rfl) rfl rfl rfl ?_
   refine tM rfl rfl ?_
   refine At.no rfl rfl rfl rfl ?_
   refine At.no rfl rfl rfl rfl ?_
   refine At.no rfl rfl rfl rfl ?_
   refine At.no rfl rfl rfl rfl ?_
   refine At.val (Val.pickF rfl rfl) rfl rfl rfl ?_
   refine tM rfl rfl ?_
   refine At.no rfl rfl rfl rfl ?_
   refine At.no rfl rfl rfl rfl ?_
   refine At.no rfl rfl rfl rfl ?_
   refine At.no rfl rfl rfl rfl ?_
   refine At.no rfl rfl rfl rfl ?_
   refine At.no rfl rfl rfl rfl ?_
   refine At.val (Val.pickF rfl rfl) rfl rfl rfl ?_
   refine At.nil ?_
   exact At.boolEnd rfl (by unfold hasB; exact (by first | exact (decide_eq_true (by omega)).symm | exact (decide_eq_false (by omega)).symm | (apply Bool.eq_iff_iff.2; simp only [decide_eq_true_eq, beq_iff_eq, bne_iff_ne, ne_eq, Bool.not_eq_true', decide_eq_false_iff_not]; omega) | rfl | (simp_all; done) | (simp_all; omega))) (by repeat (first | exact Sub.nil | refine Sub.cons rfl ?_))
 ·skip
  simp only [List.drop_succ_cons, List.drop_zero]
  refine tA rfl rfl ?_
  refine tE ?_
  refine At.retC ?_
  refine At.ret1 (.inl rfl) rfl rfl rfl (fun w hw => ?_)
  exact ⟨rfl, hw⟩
theorem dead_k (p : Nat) (γ : Gh) (σ : Ds) (w : World) (hd : (Dev p γ σ).holds w) :
    Upd Tryd.prog 44 [.pointer (some ⟨p, 0, none⟩)] (Dev p γ σ) (.bool (deadB σ)) (Dev p γ σ) w := by
 refine enterV hd Tryd.func44 rfl Tryd.ntmps44 rfl ?_
 unfold devL
 have hgd := Dev.good hd
 simp only [envOf]
 refine tR ?_
 refine tA rfl rfl ?_
 refine tE ?_
 refine tR ?_
 refine tM rfl rfl ?_
 refine At.val (Val.nilCheck rfl) rfl rfl rfl ?_
 refine At.val (Val.field 3 rfl fo_92_3 rfl) rfl rfl rfl ?_
 refine At.val (Val.load (i := 0) Tryd.isAgg4 rfl rfl rfl) rfl rfl rfl ?_
 refine At.weaken [(0, _), (2, _), (6, _)] (Sub.cons rfl (Sub.cons rfl (Sub.cons rfl Sub.nil))) ?_
 refine At.boolMeet 7 13 (deadB σ) ?_ ?_
 ·skip
  simp only [List.take_succ_cons, List.take_zero]
  refine tM rfl rfl ?_
  refine At.split (t := 7) rfl (fun h1 => ?_) (fun h1 => ?_)
  ·skip
   try simp only [hasB, isSizeB, Bool.not_eq_true', Bool.not_eq_false', bne_iff_ne, ne_eq, bne_eq_false_iff_eq, beq_iff_eq, beq_eq_false_iff_ne, decide_eq_true_eq, decide_eq_false_iff_not, gt_iff_lt, ge_iff_le] at h1
   refine At.yes rfl rfl ?_
   refine tM rfl rfl ?_
   refine At.yes rfl rfl ?_
   refine At.val (Val.nilCheck rfl) rfl rfl rfl ?_
   refine At.yes rfl rfl ?_
   refine At.val (Val.field 4 rfl fo_92_4 rfl) rfl rfl rfl ?_
   refine At.yes rfl rfl ?_
   refine At.val (Val.load (i := 0) Tryd.isAgg3 rfl rfl rfl) rfl rfl rfl ?_
   refine At.yes rfl rfl ?_
   refine At.val (Val.bin rfl rfl rfl) rfl rfl rfl ?_
   refine At.val (Val.pickT rfl rfl) rfl rfl rfl ?_
   refine At.nil ?_
   exact At.boolEnd rfl (by unfold deadB; first | (rw [show σ.armed = true from by assumption]; simp only [Bool.true_and]; apply Bool.eq_iff_iff.2; simp only [beq_iff_eq, decide_eq_true_eq]; omega) | (rw [show σ.armed = false from by assumption]; rfl)) (by repeat (first | exact Sub.nil | refine Sub.cons rfl ?_))
  ·skip
   try simp only [hasB, isSizeB, Bool.not_eq_true', Bool.not_eq_false', bne_iff_ne, ne_eq, bne_eq_false_iff_eq, beq_iff_eq, beq_eq_false_iff_ne, decide_eq_true_eq, decide_eq_false_iff_not, gt_iff_lt, ge_iff_le] at h1
   refine At.no rfl rfl rfl rfl ?_
   refine At.no rfl rfl rfl rfl ?_
   refine At.no rfl rfl rfl rfl ?_
   refine At.no rfl rfl rfl rfl ?_
   refine At.no rfl rfl rfl rfl ?_
   refine At.val (Val.pickF rfl rfl) rfl rfl rfl ?_
   refine At.nil ?_
   exact At.boolEnd rfl (by unfold deadB; first | (rw [show σ.armed = true from by assumption]; simp only [Bool.true_and]; apply Bool.eq_iff_iff.2; simp only [beq_iff_eq, decide_eq_true_eq]; omega) | (rw [show σ.armed = false from by assumption]; rfl)) (by repeat (first | exact Sub.nil | refine Sub.cons rfl ?_))
 ·skip
  simp only [List.drop_succ_cons, List.drop_zero]
  refine tA rfl rfl ?_
  refine tE ?_
  refine At.retC ?_
  refine At.ret1 (.inl rfl) rfl rfl rfl (fun w hw => ?_)
  exact ⟨rfl, retK (F := []) hw⟩
theorem steps_k (p : Nat) (γ : Gh) (σ : Ds) (w : World) (hd : (Dev p γ σ).holds w) :
    Upd Tryd.prog 21 [.pointer (some ⟨p, 0, none⟩)] (Dev p γ σ) (.int .i64 (σ.steps : Int)) (Dev p γ σ) w := by
 refine enterV hd Tryd.func21 rfl Tryd.ntmps21 rfl ?_
 unfold devL
 have hgd := Dev.good hd
 simp only [envOf]
 refine tR ?_
 refine tA rfl rfl ?_
 refine tE ?_
 refine tR ?_
 refine tM rfl rfl ?_
 refine At.val (Val.nilCheck rfl) rfl rfl rfl ?_
 refine At.val (Val.field 2 rfl fo_92_2 rfl) rfl rfl rfl ?_
 refine At.val (Val.load (i := 0) Tryd.isAgg3 rfl rfl rfl) rfl rfl rfl ?_
 refine tA rfl rfl ?_
 refine tE ?_
 refine At.retC ?_
 refine At.ret1 (.inl rfl) rfl rfl rfl (fun w hw => ?_)
 exact ⟨rfl, retK (F := []) hw⟩
theorem place_k (p : Nat) (γ : Gh) (σ : Ds) (a : Int) (w : World) (hd : (Dev p γ σ).holds w) :
    Upd Tryd.prog 48 [.pointer (some ⟨p, 0, none⟩), .int .i64 a] (Dev p γ σ) (.int .i64 (placeE σ a)) (Dev p γ σ) w := by
 refine enterVc hd Tryd.func48 rfl Tryd.ntmps48 rfl ?_
 have hgd := Dev.good hd
 have hln := hgd.len
 simp only [envOf]
 refine tR ?_
 refine tA rfl rfl ?_
 refine tE ?_
 refine At.seq ?_
 refine tR ?_
 refine tM rfl rfl ?_
 refine tM rfl rfl ?_
 refine At.callK 0 rfl (fun w hw hr => has_k _ _ _ _ _ w hr) Tryd.call50 rfl rfl ?_
 refine At.val (Val.not rfl) rfl rfl rfl ?_
 refine tE ?_
 refine At.cond rfl (fun h1 => ?_) (fun h1 => ?_)
 ·skip
  try simp only [hasB, isSizeB, Bool.not_eq_true', Bool.not_eq_false', bne_iff_ne, ne_eq, bne_eq_false_iff_eq, beq_iff_eq, beq_eq_false_iff_ne, decide_eq_true_eq, decide_eq_false_iff_not, gt_iff_lt, ge_iff_le] at h1
  refine tR ?_
  refine tA rfl rfl ?_
  refine tE ?_
  refine At.retC ?_
  refine At.thenR ?_
  refine At.ret1 (.inl rfl) rfl rfl rfl (fun w hw => ?_)
  exact ⟨congrArg (fun z => Ending.returned (Value.int .i64 z)) (by unfold placeE; (repeat' split) <;> omega), hw⟩
 ·skip
  try simp only [hasB, isSizeB, Bool.not_eq_true', Bool.not_eq_false', bne_iff_ne, ne_eq, bne_eq_false_iff_eq, beq_iff_eq, beq_eq_false_iff_ne, decide_eq_true_eq, decide_eq_false_iff_not, gt_iff_lt, ge_iff_le] at h1
  refine At.skipC ?_
  refine At.thenN ?_
  refine At.seq ?_
  refine tR ?_
  refine tM rfl rfl ?_
  first | refine At.val (Val.remI rfl rfl (by omega) (by decide)) rfl rfl rfl ?_ | refine At.val (Val.rem rfl rfl (by decide)) rfl rfl rfl ?_
  refine At.val (Val.bin rfl rfl rfl) rfl rfl rfl ?_
  refine tE ?_
  refine At.cond rfl (fun h2 => ?_) (fun h2 => ?_)
  ·skip
   try simp only [hasB, isSizeB, Bool.not_eq_true', Bool.not_eq_false', bne_iff_ne, ne_eq, bne_eq_false_iff_eq, beq_iff_eq, beq_eq_false_iff_ne, decide_eq_true_eq, decide_eq_false_iff_not, gt_iff_lt, ge_iff_le] at h2
   refine tR ?_
   refine tA rfl rfl ?_
   refine tE ?_
   refine At.retC ?_
   refine At.thenR ?_
   refine At.ret1 (.inl rfl) rfl rfl rfl (fun w hw => ?_)
   exact ⟨congrArg (fun z => Ending.returned (Value.int .i64 z)) (by unfold placeE; (repeat' split) <;> omega), hw⟩
  ·skip
   try simp only [hasB, isSizeB, Bool.not_eq_true', Bool.not_eq_false', bne_iff_ne, ne_eq, bne_eq_false_iff_eq, beq_iff_eq, beq_eq_false_iff_ne, decide_eq_true_eq, decide_eq_false_iff_not, gt_iff_lt, ge_iff_le] at h2
   refine At.skipC ?_
   refine At.thenN ?_
   refine tR ?_
   refine tA rfl rfl ?_
   refine tE ?_
   refine At.retC ?_
   refine At.ret1 (.inl rfl) rfl rfl rfl (fun w hw => ?_)
   exact ⟨congrArg (fun z => Ending.returned (Value.int .i64 z)) (by unfold placeE; (repeat' split) <;> omega), hw⟩
theorem step_d (p : Nat) (γ : Gh) (σ : Ds) (w : World) (hs : σ.steps + 1 ≤ 10000000000000) (hno : deadB σ = false) (hd : (Dev p γ σ).holds w) :
    DevU Tryd.prog 49 [.pointer (some ⟨p, 0, none⟩)] p γ σ (.int .i64 0) (stepD σ) w := by
 refine enterVc hd Tryd.func49 rfl Tryd.ntmps49 rfl ?_
 have hgd := Dev.good hd
 have hln := hgd.len
 have hlf := hgd.left
 simp only [envOf]
 refine tR ?_
 refine tA rfl rfl ?_
 refine tE ?_
 refine At.seq ?_
 refine tR ?_
 refine tM rfl rfl ?_
 refine At.callK 0 rfl (fun w hw hr => dead_k _ _ _ w hr) Tryd.call44 rfl rfl ?_
 refine tE ?_
 refine At.cond rfl (fun h1 => ?_) (fun h1 => ?_)
 ·skip
  try simp only [hasB, isSizeB, Bool.not_eq_true', Bool.not_eq_false', bne_iff_ne, ne_eq, bne_eq_false_iff_eq, beq_iff_eq, beq_eq_false_iff_ne, decide_eq_true_eq, decide_eq_false_iff_not, gt_iff_lt, ge_iff_le] at h1
  rw [hno] at h1; cases h1
 ·skip
  try simp only [hasB, isSizeB, Bool.not_eq_true', Bool.not_eq_false', bne_iff_ne, ne_eq, bne_eq_false_iff_eq, beq_iff_eq, beq_eq_false_iff_ne, decide_eq_true_eq, decide_eq_false_iff_not, gt_iff_lt, ge_iff_le] at h1
  refine At.skipC ?_
  refine At.thenN ?_
  refine At.seq ?_
  refine At.openS 0 rfl ?_
  simp only [devL, List.cons_append, List.nil_append, ec0, ecS]
  refine At.region ?_
  refine tM rfl rfl ?_
  refine At.val (Val.nilCheck rfl) rfl rfl rfl ?_
  refine At.val (Val.field 2 rfl fo_92_2 rfl) rfl rfl rfl ?_
  refine At.val (Val.load (i := 0) Tryd.isAgg3 rfl rfl rfl) rfl rfl rfl ?_
  first | refine At.val (Val.addI rfl rfl (by omega) (by omega)) rfl rfl rfl ?_ | refine At.val (Val.bin rfl rfl rfl) rfl rfl rfl ?_
  refine At.val (Val.nilCheck rfl) rfl rfl rfl ?_
  refine At.val (Val.field 2 rfl fo_92_2 rfl) rfl rfl rfl ?_
  refine At.store (i := 0) Tryd.sizeOf3 rfl rfl rfl rfl (by first | decide | simp) ?_
  simp only [sc0, scS]
  refine tE ?_
  refine At.seq ?_
  refine tR ?_
  refine tM rfl rfl ?_
  refine At.val (Val.nilCheck rfl) rfl rfl rfl ?_
  refine At.val (Val.field 3 rfl fo_92_3 rfl) rfl rfl rfl ?_
  refine At.val (Val.load (i := 0) Tryd.isAgg4 rfl rfl rfl) rfl rfl rfl ?_
  refine tE ?_
  refine At.cond rfl (fun h2 => ?_) (fun h2 => ?_)
  ·skip
   try simp only [hasB, isSizeB, Bool.not_eq_true', Bool.not_eq_false', bne_iff_ne, ne_eq, bne_eq_false_iff_eq, beq_iff_eq, beq_eq_false_iff_ne, decide_eq_true_eq, decide_eq_false_iff_not, gt_iff_lt, ge_iff_le] at h2
   have hlp : 1 ≤ σ.left := by rcases Nat.eq_zero_or_pos σ.left with h0 | h0; exact absurd hno (by unfold deadB; simp [h0, h2]); exact h0
   refine At.region ?_
   refine tM rfl rfl ?_
   refine At.val (Val.nilCheck rfl) rfl rfl rfl ?_
   refine At.val (Val.field 4 rfl fo_92_4 rfl) rfl rfl rfl ?_
   refine At.val (Val.load (i := 0) Tryd.isAgg3 rfl rfl rfl) rfl rfl rfl ?_
   first | refine At.val (Val.subI rfl rfl (by omega) (by omega)) rfl rfl rfl ?_ | refine At.val (Val.bin rfl rfl rfl) rfl rfl rfl ?_
   refine At.val (Val.nilCheck rfl) rfl rfl rfl ?_
   refine At.val (Val.field 4 rfl fo_92_4 rfl) rfl rfl rfl ?_
   refine At.store (i := 0) Tryd.sizeOf3 rfl rfl rfl rfl (by first | decide | simp) ?_
   simp only [sc0, scS]
   refine tE ?_
   refine tR ?_
   refine tA rfl rfl ?_
   refine tE ?_
   refine At.retC ?_
   refine At.ret1 (.inl rfl) rfl rfl rfl (fun w hw => ?_)
   exact ⟨γ, rfl, toDev (F := []) (dgood_step hgd hs) (hw.drop (show List.Sublist [_, _, _, _] _ from (List.Sublist.refl _ |>.cons _ |>.cons_cons _ |>.cons_cons _ |>.cons_cons _ |>.cons_cons _))) (by congr 1; simp [stepD, *]; try omega) rfl rfl rfl⟩
  ·skip
   try simp only [hasB, isSizeB, Bool.not_eq_true', Bool.not_eq_false', bne_iff_ne, ne_eq, bne_eq_false_iff_eq, beq_iff_eq, beq_eq_false_iff_ne, decide_eq_true_eq, decide_eq_false_iff_not, gt_iff_lt, ge_iff_le] at h2
   refine At.skipC ?_
   refine At.thenN ?_
   refine tR ?_
   refine tA rfl rfl ?_
   refine tE ?_
   refine At.retC ?_
   refine At.ret1 (.inl rfl) rfl rfl rfl (fun w hw => ?_)
   exact ⟨γ, rfl, toDev (F := []) (dgood_step hgd hs) (hw.drop (show List.Sublist [_, _, _, _] _ from (List.Sublist.refl _ |>.cons _ |>.cons_cons _ |>.cons_cons _ |>.cons_cons _ |>.cons_cons _))) (by congr 1; simp [stepD, *]; try omega) rfl rfl rfl⟩
theorem step_0 (p : Nat) (γ : Gh) (σ : Ds) (w : World) (hno : deadB σ = true) (hd : (Dev p γ σ).holds w) :
    Upd Tryd.prog 49 [.pointer (some ⟨p, 0, none⟩)] (Dev p γ σ) (.int .i64 13) (Dev p γ σ) w := by
 refine enterVc hd Tryd.func49 rfl Tryd.ntmps49 rfl ?_
 have hgd := Dev.good hd
 simp only [envOf]
 refine tR ?_
 refine tA rfl rfl ?_
 refine tE ?_
 refine At.seq ?_
 refine tR ?_
 refine tM rfl rfl ?_
 refine At.callK 0 rfl (fun w hw hr => dead_k _ _ _ w hr) Tryd.call44 rfl rfl ?_
 refine tE ?_
 refine At.cond rfl (fun h1 => ?_) (fun h1 => ?_)
 ·skip
  try simp only [hasB, isSizeB, Bool.not_eq_true', Bool.not_eq_false', bne_iff_ne, ne_eq, bne_eq_false_iff_eq, beq_iff_eq, beq_eq_false_iff_ne, decide_eq_true_eq, decide_eq_false_iff_not, gt_iff_lt, ge_iff_le] at h1
  refine tR ?_
  refine tA rfl rfl ?_
  refine tE ?_
  refine At.retC ?_
  refine At.thenR ?_
  refine At.ret1 (.inl rfl) rfl rfl rfl (fun w hw => ?_)
  exact ⟨rfl, hw⟩
 ·skip
  try simp only [hasB, isSizeB, Bool.not_eq_true', Bool.not_eq_false', bne_iff_ne, ne_eq, bne_eq_false_iff_eq, beq_iff_eq, beq_eq_false_iff_ne, decide_eq_true_eq, decide_eq_false_iff_not, gt_iff_lt, ge_iff_le] at h1
  rw [hno] at h1; cases h1
end Go.Proofs.YtpihenmdkoojdaaDoor
set_option linter.unusedVariables false
set_option linter.unusedSimpArgs false
namespace Go.Wk
open Go
section
variable {P : Program} {Γ : Ctx} {E : Env} {H L F : List Res} {ops : Array Oper} {Q : Exit → Act → World → Prop} {rest : List Oper} {w0 w w' : World} {S : Nat → Prop} {φ : Act → World → Prop} {ψ : Act → Prop}
  {d : Nat} {dst : Option Tmp} {gd : Option (Nat × Bool)} {ty : TypeId} {pos : String} {after : Array Edge} {x y z : Operand} {v u : Value} {ws : List Wd} {g : Nat → Nat × Value}
theorem Rep.famNil {I : Nat → Option Res} (hI : ∀ k, I k = none) (h : Rep w0 S H w) : Rep w0 S (fam I :: H) w :=
  ⟨List.pairwise_cons.2 ⟨fun s _ b ⟨k, r, hk, _⟩ _ => (by rw [hI k] at hk; cases hk), h.sep⟩, fun r hr => by
    rcases List.mem_cons.1 hr with rfl | h1
    · exact ⟨fun k r hk => (by rw [hI k] at hk; cases hk), fun k k' r r' hk => (by rw [hI k] at hk; cases hk)⟩
    · exact h.all r h1, fun r hr b hb => by
    rcases List.mem_cons.1 hr with rfl | h1
    · obtain ⟨k, r, hk, _⟩ := hb; rw [hI k] at hk; cases hk
    · exact h.mine r h1 b hb, h.mod⟩
theorem dI_calm (h : ∀ w ∈ ws, w.news = []) (k : Nat) : dI ws g k = none := by
  cases hk : ws[k]? with
  | none => unfold dI; rw [hk]
  | some wd => exact dI_none hk (h wd (List.mem_of_getElem? hk))
theorem mk_calm (h : ∀ w ∈ ws, w.news = []) : mk ws g = fun _ => none := by
  funext q
  unfold mk
  split
  · cases hk : ws[(q / 8).toNat]? with
    | none => unfold mkN; rw [hk]
    | some wd => exact mkN_none hk (h wd (List.mem_of_getElem? hk))
  · rfl
theorem made_w (n : Nat) : (madeCells #[Value.int .u64 0] (n * 1)).toList = (List.replicate n (0 : BitVec 64)).map b64 := by
  rw [Nat.mul_one]
  apply List.ext_getElem
  · simp [madeCells]
  · intro i h1 h2
    simp [madeCells, Nat.mod_one]
theorem At.makeRowW {t e n : Nat} {ti : TypeInfo} (ht : P.underlying t = some (.slice e)) (hti : P.info? e = some ti) (hz : ti.zero = some (.int .u64 0)) (hsize : ti.size = 1) (hb : ti.bytes = 8)
    (hx : ev E x = some (.int .i64 (n : Int))) (hy : ev E y = some (.int .i64 (n : Int))) (h63 : n ≤ 1073741824) (hn : Nat.blt d Γ.n = true)
    (k : ∀ v, At Γ ((d, v) :: E) (wrow e v (List.replicate n 0) :: H) (wpList P ops Q rest)) :
    At Γ E H (wpList P ops Q ({ dst := some d, op := .makeSlice t x y, type := ty, pos, after, guard := none } :: rest)) :=
  At.makeRow ht hti hz hsize (made_w n) hx hy (by rw [hb]; omega) (by omega) hn fun v => by
    have := k v
    unfold wrow at this
    rwa [List.length_replicate] at this
theorem now_last {wd : Wd} (hn : wd.news ≠ []) {y : BitVec 64} (hy : y = wd.news.getLast?.getD wd.old) : wd.news[wd.news.length - 1]? = some y := by
  rw [hy, ← List.getLast?_eq_getElem?]
  cases h : wd.news.getLast? with
  | none => rw [List.getLast?_eq_none_iff] at h; exact absurd h hn
  | some z => rfl
/-- A closure that captured several values. -/
theorem run_callV {n : Nat} {D : List Deferred} {a : Act} (ha : Agrees n D E a) {f : FuncId} {fx : Operand} {caps : List Value} {l : List Operand} {vs : List Value} {at_ : Array TypeId} (hf : ev E fx = some (.func (.func f) #[] caps.toArray)) (hc : ∀ args w, (callFunc f args).run P w = .ok (.enter f args) w) (hv : evs E l = some vs) (w : World) :
    (execOp a.eval { dst := dst, op := .call { callee := .value fx, args := l.toArray, argTypes := at_ }, type := ty, pos, after, guard := gd }).run P w = .ok (.enter f (vs ++ caps).toArray) w := by
  have hev := ha.evals hv
  simp [execOp, resolve, ha.eval hf, Deferred.ofValue, Sem.run_bind, invoke, hev, hc]
theorem QAt.callVKS (L : List Res) {F : List Res} {f : FuncId} {fx : Operand} {caps : List Value} {l : List Operand} {vs : List Value} {at_ : Array TypeId} (hL : H = L ++ F) (hf : ev E fx = some (.func (.func f) #[] caps.toArray)) (h : ∀ w, Rep Γ.w0 Γ.S H w → (star L).holds w → Upd P f (vs ++ caps) (star L) v (star L) w)
    (hc : ∀ args w, (callFunc f args).run P w = .ok (.enter f args) w) (hv : evs E l = some vs) (hn : Nat.blt d Γ.n = true)
    (c : QAt P Γ ops ((d, v) :: E) H rest ψ) : QAt P Γ ops E H ({ dst := some d, op := .call { callee := .value fx, args := l.toArray, argTypes := at_ }, type := ty, pos, after, guard := none } :: rest) ψ := by
  subst hL
  intro a ha
  unfold wpQuiet
  rw [if_pos (by simp [Region.wanted])]
  refine ⟨v, fun w hw => ?_, c _ (ha.put d v hn)⟩
  unfold Oper.quietAt
  rw [run_callV ha hf hc hv w]
  exact ⟨rfl, (h w hw (hw.shutS.all _ (List.mem_cons_self ..))).mono fun e w' ⟨he, hm⟩ => ⟨he, hw.keptS hm⟩⟩
theorem At.winNil (e : Nat) (k : At Γ E (winR (.slice none 0 0) e [] :: H) φ) : At Γ E H φ := fun a w ha hw =>
  k a w ha (hw.new (r' := winR (.slice none 0 0) e []) (Mod.refl _ _) (.inl ⟨rfl, rfl⟩) (fun b hb => by simp [winR, Value.ownBlock] at hb))
theorem At.bornD0 {k b : Nat} {v' : Value} {wo wd : Wd} (hm : wd.mark = 0) (hk : ws[k]? = some wo) (ho : wo.news = []) (hn : wd.news ≠ []) (c : At Γ E (fam (dI (ws.set k wd) (upd g k (b, v'))) :: H) φ) : At Γ E (blk b tDb [v', .int .i64 0] :: winR v' tW (wd.news.map b64) :: fam (dI ws g) :: H) φ := by
  have := At.bornD (Γ := Γ) (E := E) (H := H) (φ := φ) (g := g) (b := b) (v' := v') hk ho hn c
  rwa [hm] at this
theorem At.unfocusZ {k b : Nat} {v' : Value} {wd : Wd} (hm : wd.mark = 0) (hk : k < ws.length) (hn : wd.news ≠ []) (c : At Γ E (fam (dI (ws.set k wd) (upd g k (b, v'))) :: H) φ) : At Γ E (blk b tDb [v', .int .i64 0] :: winR v' tW (wd.news.map b64) :: fam (upd (dI ws g) k none) :: H) φ := by
  have := At.unfocusD (Γ := Γ) (E := E) (H := H) (φ := φ) (g := g) (b := b) (v' := v') hk hn c
  rwa [hm] at this
theorem At.dbtCap {k : Nat} {wd : Wd} {b o n c : Nat} (i : Nat) (hi : H[i]? = some (fam (dI ws g))) (hk : ws[k]? = some wd) (hn : wd.news ≠ []) (hv : (g k).2 = .slice (some ⟨b, o, none⟩) n c) (q : wd.news.length ≤ c → At Γ E H φ) : At Γ E H φ := fun a w ha hw => by
  have h := (fam_dbt (hw.all _ (List.mem_of_getElem? hi)) hk hn).2
  rw [hv] at h
  rcases h with ⟨h1, _⟩ | ⟨b', o', c', cur, h1, _, h2, _⟩
  · cases h1
  · simp only [Value.slice.injEq] at h1
    obtain ⟨_, _, rfl⟩ := h1
    rw [List.length_map] at h2
    exact q h2 a w ha hw
theorem At.winOne (i : Nat) {e : Nat} {xs : List Value} (hi : H[i]? = some (winR v e xs)) (k : v.oneCell' = true → At Γ E H φ) : At Γ E H φ := fun a w ha hw => by
  have h : Win w v e xs := hw.all _ (List.mem_of_getElem? hi)
  rcases h with ⟨rfl, rfl⟩ | ⟨b, o, c, cur, rfl, _⟩ <;> exact k rfl a w ha hw
theorem At.bring (i : Nat) {r : Res} (hi : H[i]? = some r) (k : At Γ E (r :: H.eraseIdx i) φ) : At Γ E H φ := fun a w ha hw => k a w ha (hw.perm (erase_perm H i r hi))
/-- One part of a list is laid over. -/
def putK (l : List UInt8) (o : Nat) (x : BitVec 64) (k : Nat) : List UInt8 := l.take o ++ (le8 x).take k ++ l.drop (o + k)
abbrev put8 (l : List UInt8) (o : Nat) (x : BitVec 64) : List UInt8 := putK l o x 8
theorem putK_zero (l : List UInt8) (o : Nat) (x : BitVec 64) : putK l o x 0 = l := by simp [putK]
theorem putK_length {l : List UInt8} {o k : Nat} (x : BitVec 64) (h : o + k ≤ l.length) (hk : k ≤ 8) : (putK l o x k).length = l.length := by
  unfold putK; simp [le_length]; omega
theorem putK_step {l : List UInt8} {o k : Nat} (x : BitVec 64) (h : o + k < l.length) (hk : k < 8) : (putK l o x k).set (o + k) (UInt8.ofNat (x.toNat / 256 ^ k)) = putK l o x (k + 1) := by
  unfold putK
  rw [le_take_succ 8 _ k hk]
  have e : (l.take o ++ (le8 x).take k).length = o + k := by simp [le_length]; omega
  rw [List.set_append_right _ _ (by omega), e, Nat.sub_self, List.drop_eq_getElem_cons h, List.set_cons_zero]
  simp [Nat.add_assoc]
end
end Go.Wk
set_option linter.unusedVariables false
set_option linter.unusedSimpArgs false
namespace Go.Proofs.YtpihenmdkoojdaaDoor
open Go Go.Wk
theorem wz_calm (n : Nat) : ∀ w ∈ wz n, w.news = [] := fun w hw => by rw [(List.mem_replicate.1 hw).2]; rfl
theorem olds_wz (n : Nat) : olds (wz n) = List.replicate n 0 := by simp [olds, wz, zWd]
theorem zeroD_good {n : Nat} (h : isSizeB (8 * (n : Int)) = true) : Dgood (zeroD n) := by
  unfold isSizeB at h
  rw [decide_eq_true_eq] at h
  have e : (zeroD n).ws.length = n := by simp [zeroD, wz]
  exact ⟨by rw [e]; omega, by rw [e]; omega, by rw [e]; omega, by simp [zeroD], by simp [zeroD], fun w hw => by
    have := (List.mem_replicate.1 hw).2
    subst this; exact ⟨Nat.le_refl _, Nat.le_refl _⟩⟩
theorem now_old {wd : Wd} (h : wd.news = []) : nowW wd = wd.old := by unfold nowW; rw [h]; rfl
theorem bld_dev (a : Option Addr) (n c m : Nat) (w : World) : (Instr.build 92 #[(0, .slice a n c), (1, .map (some m))]).run Tryd.prog w = .ok (.agg #[.slice a n c, .map (some m), .int .i64 0, .bool false, .int .i64 0]) w := by kernel_rfl
theorem wordOf_p (v : Value) (l : List UInt8) (w : World) (hv : RdB w v l) (h8 : 8 ≤ l.length) :
    PureC Tryd.prog 67 [v] (b64 (wdA l 0)) w := by
 refine enter0 Tryd.func67 rfl Tryd.ntmps67 rfl ?_
 simp only [envOf]
 refine tR ?_
 refine tA rfl rfl ?_
 refine tE ?_
 refine tR ?_
 refine tA rfl rfl ?_
 refine tE ?_
 refine At.seq ?_
 refine tR ?_
 refine tA rfl rfl ?_
 refine tE ?_
 refine At.block ?_
 skip
 refine At.loop (σ := Nat) (fun k => k ≤ 8) (fun k => [(0, v), (3, .int .u64 ((num l k (8 - k) : Nat) : Int)), (4, .int .i64 ((k : Int) - 1))]) (fun k => []) (fun k => k) 8 (Nat.le_refl _) (Sub.cons rfl (Sub.cons (congrArg (fun z => some (Value.int IntKind.u64 z)) (by rw [Nat.sub_self, num_zero]; rfl)) (Sub.cons rfl Sub.nil))) (List.Perm.refl _) ?_
 intro k hs
 refine At.seq ?_
 refine tR ?_
 refine tM rfl rfl ?_
 refine At.val (Val.bin rfl rfl rfl) rfl rfl rfl ?_
 refine tE ?_
 refine At.cond rfl (fun h1 => ?_) (fun h1 => ?_)
 ·skip
  try simp only [hasB, isSizeB, Bool.not_eq_true', Bool.not_eq_false', bne_iff_ne, ne_eq, bne_eq_false_iff_eq, beq_iff_eq, beq_eq_false_iff_ne, decide_eq_true_eq, decide_eq_false_iff_not, gt_iff_lt, ge_iff_le] at h1
  have hk : 1 ≤ k := by omega
  refine At.skipC ?_
  refine At.thenN ?_
  refine At.seq ?_
  refine At.block ?_
  refine At.region ?_
  refine tM rfl rfl ?_
  refine At.val (Val.shl rfl rfl (by decide)) rfl rfl rfl ?_
  refine tM rfl rfl ?_
  refine tM rfl rfl ?_
  refine At.idxB hv Tryd.underlying38 Tryd.sizeOf5 rfl rfl (by omega) (by omega) rfl rfl (fun b2 o3 q4 hq5 hl6 hc7 => ?_)
  refine At.val (Val.loadOld Tryd.isAgg5 rfl hc7 (fun h => h)) rfl rfl rfl ?_
  refine At.val (Val.toU Tryd.underlying5 Tryd.underlying65 rfl (by omega) (by omega)) rfl rfl rfl ?_
  have hq8 := hq5
  have e1 : ((k : Int) - 1).toNat = k - 1 := by omega
  rw [e1] at hq8
  have hlt := num_lt (l := l) k (8 - k)
  have hlt' : num l k (8 - k) < 72057594037927936 := Nat.lt_of_lt_of_le hlt (Nat.pow_le_pow_right (n := 256) (i := 8 - k) (j := 7) (by decide) (by omega))
  refine At.val (Val.bin rfl rfl rfl) rfl rfl rfl ?_
  rw [or_low hlt' (UInt8.toNat_lt _)]
  refine tA rfl rfl ?_
  refine At.nil ?_
  refine At.blkN ?_
  refine At.thenN ?_
  refine At.region ?_
  refine tM rfl rfl ?_
  first | refine At.val (Val.subI rfl rfl (by omega) (by omega)) rfl rfl rfl ?_ | refine At.val (Val.bin rfl rfl rfl) rfl rfl rfl ?_
  refine tA rfl rfl ?_
  refine tE ?_
  exact At.again (k - 1) (show k - 1 ≤ 8 by omega) (show k - 1 < k by omega) (Sub.cons rfl (Sub.cons (congrArg (fun z => some (Value.int IntKind.u64 z)) (by rw [show 8 - (k - 1) = 8 - k + 1 by omega, num_cons hq8, show k - 1 + 1 = k by omega])) (Sub.cons (congrArg (fun z => some (Value.int IntKind.i64 z)) (by omega)) Sub.nil))) (List.Perm.refl _)
 ·skip
  try simp only [hasB, isSizeB, Bool.not_eq_true', Bool.not_eq_false', bne_iff_ne, ne_eq, bne_eq_false_iff_eq, beq_iff_eq, beq_eq_false_iff_ne, decide_eq_true_eq, decide_eq_false_iff_not, gt_iff_lt, ge_iff_le] at h1
  obtain rfl : k = 0 := by omega
  refine At.exitC ?_
  refine At.thenX ?_
  refine At.thenX ?_
  refine At.blkX ?_
  refine At.thenN ?_
  refine tR ?_
  refine tM rfl rfl ?_
  refine tA rfl rfl ?_
  refine tE ?_
  refine At.retC ?_
  refine At.ret1 (.inl rfl) rfl rfl rfl (fun w hw => ?_)
  exact ⟨congrArg Ending.returned (wdA_val l 0), hw.mod⟩
theorem putW_r (b o m cc n c : Nat) (l : List UInt8) (x : BitVec 64) (w : World) (h8 : 8 ≤ m) (ho8 : o + 8 ≤ l.length) (hr : (brow 5 (.slice (some ⟨b, 0, none⟩) n c) l).holds w) :
    Upd Tryd.prog 58 [.slice (some ⟨b, o, none⟩) m cc, b64 x] (brow 5 (.slice (some ⟨b, 0, none⟩) n c) l) (.tuple #[]) (brow 5 (.slice (some ⟨b, 0, none⟩) n c) (put8 l o x)) w := by
 refine enter (feet [brow 5 (.slice (some ⟨b, 0, none⟩) n c) l]) [brow 5 (.slice (some ⟨b, 0, none⟩) n c) l] Tryd.func58 rfl Tryd.ntmps58 rfl (Rep.one hr) ?_
 simp only [envOf]
 refine tR ?_
 refine tM rfl rfl ?_
 refine tE ?_
 refine At.block ?_
 skip
 refine At.loop (σ := Nat) (fun k => k ≤ 8) (fun k => [(0, .slice (some ⟨b, o, none⟩) m cc), (1, b64 x), (5, .int .i64 (k : Int))]) (fun k => [brow 5 (.slice (some ⟨b, 0, none⟩) n c) (putK l o x k)]) (fun k => 8 - k) 0 (Nat.zero_le _) (Sub.cons rfl (Sub.cons rfl (Sub.cons rfl Sub.nil))) (by rw [putK_zero]) ?_
 intro k hs
 refine tR ?_
 refine At.val (Val.bin rfl rfl rfl) rfl rfl rfl ?_
 refine tE ?_
 refine At.seq ?_
 refine At.cond rfl (fun h1 => ?_) (fun h1 => ?_)
 ·skip
  try simp only [hasB, isSizeB, Bool.not_eq_true', Bool.not_eq_false', bne_iff_ne, ne_eq, bne_eq_false_iff_eq, beq_iff_eq, beq_eq_false_iff_ne, decide_eq_true_eq, decide_eq_false_iff_not, gt_iff_lt, ge_iff_le] at h1
  have hk : k < 8 := by omega
  refine At.skipC ?_
  refine At.thenN ?_
  refine At.seq ?_
  refine At.block ?_
  refine tR ?_
  refine tM rfl rfl ?_
  refine tA rfl rfl ?_
  refine tE ?_
  refine At.region ?_
  refine tM rfl rfl ?_
  refine tM rfl rfl ?_
  refine tM rfl rfl ?_
  refine tM rfl rfl ?_
  refine At.val (Val.mulI rfl rfl (by omega) (by omega)) rfl rfl rfl ?_
  refine At.val (Val.shr rfl rfl (by omega)) rfl rfl rfl ?_
  rw [shr_byte x hk]
  refine At.val (Val.toB Tryd.underlying65 Tryd.underlying5 rfl (Int.natCast_nonneg _)) rfl rfl rfl ?_
  rw [Int.toNat_natCast]
  refine At.val (Val.indexSl (o + k) (by omega) Tryd.underlying38 Tryd.sizeOf5 rfl rfl (by omega) (by omega)) rfl rfl rfl ?_
  have hpl := putK_length (l := l) (o := o) (k := k) x (by omega) (by omega)
  refine At.storeRowB (i := 0) Tryd.sizeOf5 rfl rfl rfl (by omega) ?_
  simp only [sc0, scS]
  rw [putK_step x (by omega) hk]
  refine At.nil ?_
  refine At.blkN ?_
  refine At.thenN ?_
  refine At.region ?_
  first | refine At.val (Val.addI rfl rfl (by omega) (by omega)) rfl rfl rfl ?_ | refine At.val (Val.bin rfl rfl rfl) rfl rfl rfl ?_
  refine tM rfl rfl ?_
  refine tE ?_
  exact At.again (k + 1) (show k + 1 ≤ 8 by omega) (by omega) (Sub.cons rfl (Sub.cons rfl (Sub.cons (congrArg (fun z => some (Value.int IntKind.i64 z)) (by omega)) Sub.nil))) (List.Perm.refl _)
 ·skip
  try simp only [hasB, isSizeB, Bool.not_eq_true', Bool.not_eq_false', bne_iff_ne, ne_eq, bne_eq_false_iff_eq, beq_iff_eq, beq_eq_false_iff_ne, decide_eq_true_eq, decide_eq_false_iff_not, gt_iff_lt, ge_iff_le] at h1
  obtain rfl : k = 8 := by omega
  refine At.exitC ?_
  refine At.thenX ?_
  refine At.thenX ?_
  refine At.blkX ?_
  refine At.ret0 (.inr rfl) rfl rfl  (fun w hw => ?_)
  exact ⟨rfl, hw⟩
theorem now_k (p : Nat) (γ : Gh) (σ : Ds) (k : Nat) (wd : Wd) (w : World) (hk : σ.ws[k]? = some wd) (hd : (Dev p γ σ).holds w) :
    Upd Tryd.prog 55 [.pointer (some ⟨p, 0, none⟩), .int .i64 (8 * (k : Int))] (Dev p γ σ) (b64 (nowW wd)) (Dev p γ σ) w := by
 refine enterV hd Tryd.func55 rfl Tryd.ntmps55 rfl ?_
 unfold devL
 have hgd := Dev.good hd
 have hln := hgd.len
 have hkl := (List.getElem?_eq_some_iff.1 hk).1
 have hst := hgd.steps
 have hwd := hgd.word wd (List.mem_of_getElem? hk)
 simp only [envOf]
 refine tR ?_
 refine tA rfl rfl ?_
 refine tE ?_
 refine At.seq ?_
 refine tR ?_
 refine tM rfl rfl ?_
 refine At.val (Val.nilCheck rfl) rfl rfl rfl ?_
 refine At.val (Val.field 1 rfl fo_92_1 rfl) rfl rfl rfl ?_
 refine At.val (Val.load (i := 0) Tryd.isAgg90 rfl rfl rfl) rfl rfl rfl ?_
 refine tM rfl rfl ?_
 refine At.val (Val.look (i := 2) Tryd.underlying90 Tryd.underlying3 Tryd.zeroValue82 rfl rfl rfl) rfl rfl rfl ?_
 by_cases hn : wd.news = []
 ·skip
  rw [mk_at, mkN_none hk hn]
  refine tA rfl rfl ?_
  refine tE ?_
  refine tR ?_
  refine tM rfl rfl ?_
  refine At.val (Val.neNil (t := 82) (by kernel_rfl) rfl) rfl rfl rfl ?_
  refine tE ?_
  refine At.condF rfl ?_
  refine At.skipC ?_
  refine At.thenN ?_
  refine tR ?_
  refine tM rfl rfl ?_
  refine At.val (Val.nilCheck rfl) rfl rfl rfl ?_
  refine At.val (Val.field 0 rfl fo_92_0 rfl) rfl rfl rfl ?_
  refine At.val (Val.load (i := 0) Tryd.isAgg83 rfl rfl rfl) rfl rfl rfl ?_
  refine tM rfl rfl ?_
  refine At.val (Val.quoI rfl rfl (by omega) (by omega) (by decide)) rfl rfl rfl ?_
  rw [show 8 * (k : Int) / 8 = (k : Int) from by omega]
  refine At.val (Val.indexRow (i := 1) k (by omega) Tryd.underlying83 Tryd.sizeOf65 rfl rfl rfl (by omega) (by rw [olds_length]; omega)) rfl rfl rfl ?_
  refine At.val (Val.loadRow (i := 1) Tryd.isAgg65 rfl rfl (by rw [List.getElem?_map, olds_at hk]; rfl)) rfl rfl rfl ?_
  refine tA rfl rfl ?_
  refine tE ?_
  refine At.retC ?_
  refine At.ret1 (.inl rfl) rfl rfl rfl (fun w hw => ?_)
  exact ⟨congrArg (fun z => Ending.returned (b64 z)) (now_old hn).symm, retK (F := []) hw⟩
 ·skip
  rw [mk_at, mkN_some hk hn]
  have hpos := List.length_pos_iff.2 hn
  refine tA rfl rfl ?_
  refine tE ?_
  refine tR ?_
  refine tM rfl rfl ?_
  refine At.val (Val.neNil (t := 82) (by kernel_rfl) rfl) rfl rfl rfl ?_
  refine tE ?_
  refine At.condT rfl ?_
  refine At.seq ?_
  refine At.dbtSome 3 rfl hk hn (fun b o c hv => ?_)
  refine At.quiet rfl (by decide +kernel) ?_
  refine qM rfl rfl ?_
  refine QAt.val (Val.nilCheck rfl) rfl rfl rfl ?_
  refine QAt.val (Val.field 0 rfl fo_85_0 rfl) rfl rfl rfl ?_
  refine QAt.val (Val.loadDbt (i := 3) Tryd.isAgg83 rfl rfl hk hn rfl) rfl rfl rfl ?_
  refine qM rfl rfl ?_
  refine QAt.val (Val.nilCheck rfl) rfl rfl rfl ?_
  refine QAt.val (Val.field 0 rfl fo_85_0 rfl) rfl rfl rfl ?_
  refine QAt.val (Val.loadDbt (i := 3) Tryd.isAgg83 rfl rfl hk hn rfl) rfl rfl rfl ?_
  refine QAt.val (Val.lenDbt (i := 3) rfl hk hn Tryd.underlying83 rfl) rfl rfl rfl ?_
  refine QAt.val (Val.subI rfl rfl (by omega) (by omega)) rfl rfl rfl ?_
  rw [hv]
  refine QAt.val (Val.indexSl (o + (wd.news.length - 1)) (by omega) Tryd.underlying83 Tryd.sizeOf65 rfl rfl (by omega) (by omega)) rfl rfl rfl ?_
  refine QAt.val (Val.loadNews (i := 3) Tryd.isAgg65 rfl rfl hk hn hv rfl (now_last hn (y := nowW wd) rfl)) rfl rfl rfl ?_
  refine QAt.val (Val.assign rfl) rfl rfl rfl ?_
  refine QAt.fin ?_
  refine At.thenN ?_
  refine At.retC ?_
  refine At.thenR ?_
  refine At.ret1 (.inl rfl) rfl rfl rfl (fun w hw => ?_)
  exact ⟨rfl, retK (F := []) hw⟩
end Go.Proofs.YtpihenmdkoojdaaDoor
