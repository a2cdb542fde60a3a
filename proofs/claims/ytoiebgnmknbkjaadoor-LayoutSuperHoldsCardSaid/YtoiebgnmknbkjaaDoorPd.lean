/- Numbers in bytes, least byte first; rows filled from the front. No program in sight. -/
import Derived.Test.YtoiebgnmknbkjaaDoorWq
import Derived.Test.YtoiebgnmknbkjaaDoorPc
set_option linter.unusedVariables false
set_option linter.unusedSimpArgs false
namespace Go.Wk
open Go
def le : Nat → Nat → List UInt8
  | 0, _ => []
  | n + 1, v => UInt8.ofNat v :: le n (v / 256)
theorem le_length : ∀ n v, (le n v).length = n
  | 0, _ => rfl
  | n + 1, v => by simp [le, le_length n]
theorem le_get : ∀ (n v i : Nat), i < n → (le n v)[i]? = some (UInt8.ofNat (v / 256 ^ i))
  | 0, _, i, h => by omega
  | n + 1, v, 0, _ => by simp [le]
  | n + 1, v, i + 1, h => by
    simp only [le, List.getElem?_cons_succ]
    rw [le_get n (v / 256) i (by omega), Nat.div_div_eq_div_mul, Nat.pow_succ, Nat.mul_comm 256]
theorem le_take_succ (n v k : Nat) (h : k < n) : (le n v).take (k + 1) = (le n v).take k ++ [UInt8.ofNat (v / 256 ^ k)] := by
  have hk : k < (le n v).length := by rw [le_length]; exact h
  rw [List.take_succ_eq_append_getElem hk]
  congr 2
  have := le_get n v k h
  rw [List.getElem?_eq_getElem hk] at this
  exact Option.some.inj this
theorem le_take_all (n v : Nat) : (le n v).take n = le n v := by rw [List.take_of_length_le (by rw [le_length]; exact Nat.le_refl _)]
theorem ofNat_mod (n : Nat) : UInt8.ofNat (n % 256) = UInt8.ofNat n := by
  apply UInt8.toNat_inj.1
  simp [UInt8.toNat_ofNat']
theorem bit_shift_div (x : BitVec 64) (n : Nat) : (x >>> n).toNat = x.toNat / 2 ^ n := by
  rw [BitVec.toNat_ushiftRight, Nat.shiftRight_eq_div_pow]
theorem pow_256 (k : Nat) : 2 ^ (8 * k) = 256 ^ k := by rw [Nat.pow_mul]
/-- A row of which the first k are laid, the rest is as it was. -/
def fillTo (l m : List UInt8) (k : Nat) : List UInt8 := l.take k ++ m.drop k
theorem fillTo_zero (l m : List UInt8) : fillTo l m 0 = m := by simp [fillTo]
theorem fillTo_all {l m : List UInt8} {n : Nat} (h : l.length = n) (h' : m.length = n) : fillTo l m n = l := by
  subst h
  simp only [fillTo]
  rw [List.take_length, List.drop_of_length_le (by omega), List.append_nil]
theorem fillTo_length {l m : List UInt8} (h : l.length = m.length) (k : Nat) : (fillTo l m k).length = l.length := by
  simp [fillTo, h]; omega
theorem fill_step {l m : List UInt8} {k : Nat} {c : UInt8} (hc : l[k]? = some c) (h : l.length = m.length) : ((fillTo l m k).map bv).set k (bv c) = (fillTo l m (k + 1)).map bv := by
  obtain ⟨hk, rfl⟩ := List.getElem?_eq_some_iff.1 hc
  rw [← List.map_set]
  congr 1
  unfold fillTo
  rw [List.set_append]
  simp only [List.length_take]
  rw [if_neg (by omega), show k - min k l.length = 0 by omega]
  rw [List.take_succ_eq_append_getElem hk, List.append_assoc]
  congr 1
  rw [List.drop_eq_getElem_cons (show k < m.length by omega)]
  rfl
theorem fill_len {l m : List UInt8} {k : Nat} (h : l.length = m.length) : ((fillTo l m k).map bv).length = l.length := by rw [List.length_map, fillTo_length h]
/-- Zeros. -/
def zs (n : Nat) : List UInt8 := List.replicate n 0
theorem zs_bv (n : Nat) : (zs n).map bv = List.replicate n (Value.int IntKind.u8 0) := by simp [zs]
theorem zs_length (n : Nat) : (zs n).length = n := by simp [zs]
/-! ### the sealed word -/
def checkW (at_ : BitVec 64) (v : BitVec 32) : BitVec 32 := sumOn 0 (le 8 at_.toNat ++ le 4 v.toNat)
def sealW (at_ : BitVec 64) (v : BitVec 32) : BitVec 64 := if v = 0 then 0 else ((checkW at_ v).setWidth 64 <<< 32) ||| v.setWidth 64
theorem wrap_u64_int (n : Int) : IntKind.u64.wrap n = ((BitVec.ofInt 64 n).toNat : Int) := by
  simp [IntKind.wrap, IntKind.signed, IntKind.bits, BitVec.toNat_ofInt]
  omega
theorem wrap_u32_int (n : Int) : IntKind.u32.wrap n = ((BitVec.ofInt 32 n).toNat : Int) := by
  simp [IntKind.wrap, IntKind.signed, IntKind.bits, BitVec.toNat_ofInt]
  omega
theorem u64_of32 (v : BitVec 32) : IntKind.u64.wrap (v.toNat : Int) = ((v.setWidth 64).toNat : Int) := by
  rw [wrap_u64 (by omega) (by have := v.isLt; omega)]
  simp [BitVec.toNat_setWidth]
  have := v.isLt; omega
theorem le_take {n m : Nat} : ∀ {v : Nat}, n ≤ m → (le m v).take n = le n v := by
  induction n generalizing m with
  | zero => intro v h; simp [le]
  | succ n ih =>
    intro v h
    obtain ⟨m, rfl⟩ : ∃ k, m = k + 1 := ⟨m - 1, by omega⟩
    simp only [le, List.take_succ_cons]
    rw [ih (by omega)]
theorem bv_ne64 {x y : BitVec 64} (h : ((x.toNat : Int) != (y.toNat : Int)) = true) : x ≠ y := by
  intro e; subst e; simp at h
theorem bv_eq64 {x y : BitVec 64} (h : ((x.toNat : Int) != (y.toNat : Int)) = false) : x = y := by
  apply BitVec.eq_of_toNat_eq
  have : (x.toNat : Int) = (y.toNat : Int) := by simpa using h
  omega
theorem conv_u32_64 (x : BitVec 64) : IntKind.u32.wrap (x.toNat : Int) = ((x.setWidth 32).toNat : Int) := by
  rw [wrap_u32_nat]
  congr 1
theorem wrap_u32_b32 (x : BitVec 64) : (BitVec.ofNat 32 x.toNat) = x.setWidth 32 := by
  apply BitVec.eq_of_toNat_eq; simp
def unsealV (a x : BitVec 64) : Value := if sealW a (x.setWidth 32) = x then .tuple #[b32 (x.setWidth 32), .int .i64 0] else .tuple #[.int .u32 0, .int .i64 21]
theorem unseal_yes {a x : BitVec 64} (h : sealW a (x.setWidth 32) = x) : unsealV a x = .tuple #[b32 (x.setWidth 32), .int .i64 0] := by simp [unsealV, h]
theorem unseal_no {a x : BitVec 64} (h : sealW a (x.setWidth 32) ≠ x) : unsealV a x = .tuple #[.int .u32 0, .int .i64 21] := by simp [unsealV, h]
theorem seal_zero {a : BitVec 64} {v : BitVec 32} (h : v = 0) : sealW a v = 0 := by simp [sealW, h]
theorem seal_some {a : BitVec 64} {v : BitVec 32} (h : v ≠ 0) : sealW a v = ((checkW a v).setWidth 64 <<< 32) ||| v.setWidth 64 := by unfold sealW; rw [if_neg h]
/-- A line with its sum. -/
def closeL (l : List UInt8) : List UInt8 := l.take 60 ++ le 4 (sumOn 0 (l.take 60)).toNat
theorem closeL_length {l : List UInt8} (h : l.length = 64) : (closeL l).length = 64 := by simp [closeL, le_length, h]
theorem closeL_get {l : List UInt8} {k : Nat} (h : l.length = 64) (hk : k < 4) : (closeL l)[60 + k]? = some (UInt8.ofNat ((sumOn 0 (l.take 60)).toNat / 256 ^ k)) := by
  unfold closeL
  rw [List.getElem?_append_right (by simp [h]), show 60 + k - (l.take 60).length = k by simp [h]]
  exact le_get 4 _ k hk
theorem closeL_fill {l : List UInt8} (h : l.length = 64) : fillTo (closeL l) l 60 = l := by
  have e : (closeL l).take 60 = l.take 60 := by
    unfold closeL
    rw [List.take_append_of_le_length (by simp [h]), List.take_of_length_le (by simp; omega)]
  rw [fillTo, e, List.take_append_drop]
theorem fill_done {l : List UInt8} (h : l.length = 64) : fillTo (closeL l) l 64 = closeL l := fillTo_all (closeL_length h) h
def wholeB (l : List UInt8) : Bool := decide (closeL l = l)
theorem shr32_div (x : BitVec 32) (n : Nat) : (x >>> n).toNat = x.toNat / 2 ^ n := by
  rw [BitVec.toNat_ushiftRight, Nat.shiftRight_eq_div_pow]
end Go.Wk
